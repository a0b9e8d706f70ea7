/- The statement CountAccruesSaid: for every input the law returns true, and each argument reads afterwards as it read before. Conditions: none. -/
import Derived.Test.YtioicmialbimfaaWWords
import Derived.Test.YtioicmialbimfaaSxDayTo
import Derived.Test.YtioicmialbimfaaMCountAccrues1
import Derived.Test.YtioicmialbimfaaSxLombardref04To
import Derived.Lib.Mul64
import Derived.Lib.EndianBits
import Derived.Test.YtioicmialbimfaaSxMathBitsDiv64
import Derived.Test.YtioicmialbimfaaSx0
import Derived.Handy
import Derived.Test.YtioicmialbimfaaSxLombardref02MulDiv
import Derived.Test.YtioicmialbimfaaSxLombardref03May
import Derived.Test.YtioicmialbimfaaSxLombardref03Near
import Derived.Test.YtioicmialbimfaaSxLombardref03Part
import Derived.ChangeArms
import Derived.DataReads
import Derived.WideShapes
import Derived.Deep.Slices
import Derived.Test.YtioicmialbimfaaRows
import Derived.WalkKit
import Derived.ProofKit
import Derived.OpenShut
import Derived.ShutString
import Derived.ChangeOld
import Derived.Below
import Derived.SizedLaws
import Derived.Carry
section
namespace Go.Proofs.Ytioicmialbimfaa.Cal
set_option linter.unusedVariables false
set_option linter.unusedSimpArgs false

/-- 1 in a leap year, else 0. -/
def lp (y : Int) : Int := if y % 4 = 0 ∧ (y % 100 ≠ 0 ∨ y % 400 = 0) then 1 else 0
theorem lp_01 (y : Int) : 0 ≤ lp y ∧ lp y ≤ 1 := by unfold lp; split <;> omega
/-- How many days a month has. -/
def dim (y m : Int) : Int := if m = 4 ∨ m = 6 ∨ m = 9 ∨ m = 11 then 30 else if m = 2 then 28 + lp y else 31
theorem dim_bd (y m : Int) : 28 ≤ dim y m ∧ dim y m ≤ 31 := by
  have := lp_01 y
  unfold dim; split
  · omega
  · split <;> omega
/-- The number of a year's first day. -/
def yd (y : Int) : Int := 365 * (y - 1) + (y - 1) / 4 - (y - 1) / 100 + (y - 1) / 400 + 1
/-- How many days of a year lie ahead of a month. -/
def mo (y m : Int) : Int := if m < 3 then 31 * (m - 1) else 59 + lp y + ((m - 3) * 153 + 2) / 5
/-- A date's number. -/
def num (y m d : Int) : Int := yd y + mo y m + d - 1

theorem lp_eq (y : Int) : y / 4 - (y - 1) / 4 - (y / 100 - (y - 1) / 100) + (y / 400 - (y - 1) / 400) = lp y := by
  unfold lp; split <;> omega
theorem yd_succ (y : Int) : yd (y + 1) = yd y + 365 + lp y := by
  have := lp_eq y
  unfold yd
  rw [show y + 1 - 1 = y by omega]
  omega
theorem yd_mono {a b : Int} (h : a ≤ b) : yd a ≤ yd b := by unfold yd; omega
theorem yd_lt {a b : Int} (h : a < b) : yd a + 365 ≤ yd b := by unfold yd; omega
theorem mo_one (y : Int) : mo y 1 = 0 := by unfold mo; simp
theorem mo_13 (y : Int) : mo y 13 = 365 + lp y := by unfold mo; simp; omega
theorem mo_succ (y m : Int) (h1 : 1 ≤ m) (h2 : m ≤ 12) : mo y (m + 1) = mo y m + dim y m := by
  have : m = 1 ∨ m = 2 ∨ m = 3 ∨ m = 4 ∨ m = 5 ∨ m = 6 ∨ m = 7 ∨ m = 8 ∨ m = 9 ∨ m = 10 ∨ m = 11 ∨ m = 12 := by omega
  rcases this with h | h | h | h | h | h | h | h | h | h | h | h <;> subst h <;> simp [mo, dim] <;> omega
theorem mo_le (y : Int) {a b : Int} (h0 : 1 ≤ a) (h : a ≤ b) (h2 : b ≤ 13) : mo y a ≤ mo y b := by
  have := lp_01 y
  unfold mo; split <;> split <;> omega
theorem mo_lt (y : Int) {a b : Int} (h0 : 1 ≤ a) (h : a < b) (h2 : b ≤ 13) : mo y a + dim y a ≤ mo y b := by
  have h1 := mo_succ y a h0 (by omega)
  have h3 := mo_le y (a := a + 1) (b := b) (by omega) (by omega) h2
  omega
theorem num_one (y : Int) : num y 1 1 = yd y := by unfold num; rw [mo_one]; omega
theorem num_day (y m d e : Int) : num y m (d + e) = num y m d + e := by unfold num; omega

/-- Dates that are. -/
def ok (y m d : Int) : Prop := 1 ≤ y ∧ y ≤ 9999 ∧ 1 ≤ m ∧ m ≤ 12 ∧ 1 ≤ d ∧ d ≤ dim y m
instance (y m d : Int) : Decidable (ok y m d) := by unfold ok; infer_instance

theorem num_in_year {y m d : Int} (h : ok y m d) : yd y ≤ num y m d ∧ num y m d < yd (y + 1) := by
  obtain ⟨_, _, h1, h2, h3, h4⟩ := h
  have a := mo_le y (a := 1) (b := m) (by omega) h1 (by omega)
  have b := mo_lt y (a := m) (b := 13) h1 (by omega) (by omega)
  have c := yd_succ y
  rw [mo_one] at a
  rw [mo_13] at b
  unfold num
  omega
theorem yd_one : yd 1 = 1 := by decide
theorem yd_top : yd 10000 = 3652060 := by decide
theorem num_range {y m d : Int} (h : ok y m d) : 1 ≤ num y m d ∧ num y m d ≤ 3652059 := by
  have a := num_in_year h
  obtain ⟨h1, h2, _⟩ := h
  have b := yd_mono (a := 1) (b := y) h1
  have c := yd_mono (a := y + 1) (b := 10000) (by omega)
  rw [yd_one] at b
  rw [yd_top] at c
  omega
theorem year_le {y m d y' m' d' : Int} (h : ok y m d) (h' : ok y' m' d') (hn : num y m d ≤ num y' m' d') : y ≤ y' := by
  have a := num_in_year h
  have b := num_in_year h'
  by_cases hc : y' + 1 ≤ y
  · have := yd_mono hc
    omega
  · omega
theorem num_year_lt {y m d y' m' d' : Int} (h : ok y m d) (h' : ok y' m' d') (hy : y < y') : num y m d < num y' m' d' := by
  have a := num_in_year h
  have b := num_in_year h'
  have := yd_mono (a := y + 1) (b := y') (by omega)
  omega
theorem num_month_lt {y m d m' d' : Int} (h : ok y m d) (h' : ok y m' d') (hm : m < m') : num y m d < num y m' d' := by
  obtain ⟨_, _, h1, h2, h3, h4⟩ := h
  obtain ⟨_, _, g1, g2, g3, g4⟩ := h'
  have b := mo_lt y (a := m) (b := m') h1 (by omega) (by omega)
  unfold num
  omega
/-- The order of dates is that of their numbers. -/
theorem num_lt_iff {y m d y' m' d' : Int} (h : ok y m d) (h' : ok y' m' d') :
    num y m d < num y' m' d' ↔ (y < y' ∨ y = y' ∧ (m < m' ∨ m = m' ∧ d < d')) := by
  constructor
  · intro hn
    by_cases c1 : y < y'
    · exact .inl c1
    · by_cases c2 : y' < y
      · have := num_year_lt h' h c2
        omega
      · have e : y = y' := by omega
        subst e
        refine .inr ⟨rfl, ?_⟩
        by_cases c3 : m < m'
        · exact .inl c3
        · by_cases c4 : m' < m
          · have := num_month_lt h' h c4
            omega
          · have e : m = m' := by omega
            subst e
            unfold num at hn
            exact .inr ⟨rfl, by omega⟩
  · rintro (c | ⟨rfl, c | ⟨rfl, c⟩⟩)
    · exact num_year_lt h h' c
    · exact num_month_lt h h' c
    · unfold num
      omega
theorem num_inj {y m d y' m' d' : Int} (h : ok y m d) (h' : ok y' m' d') (e : num y m d = num y' m' d') : y = y' ∧ m = m' ∧ d = d' := by
  have a := mt (num_lt_iff h h').2 (by omega)
  have b := mt (num_lt_iff h' h).2 (by omega)
  omega

/-- The next day. -/
theorem next_in {y m d : Int} (h : ok y m d) (hd : d + 1 ≤ dim y m) : ok y m (d + 1) ∧ num y m (d + 1) = num y m d + 1 := by
  obtain ⟨a, b, c, e, f, g⟩ := h
  exact ⟨⟨a, b, c, e, by omega, hd⟩, num_day y m d 1⟩
theorem next_month {y m d : Int} (h : ok y m d) (hd : d = dim y m) (hm : m < 12) : ok y (m + 1) 1 ∧ num y (m + 1) 1 = num y m d + 1 := by
  obtain ⟨a, b, c, e, f, g⟩ := h
  have := dim_bd y (m + 1)
  have := mo_succ y m c e
  refine ⟨⟨a, b, by omega, by omega, by omega, by omega⟩, ?_⟩
  unfold num
  omega
theorem next_year {y m d : Int} (h : ok y m d) (hd : d = dim y m) (hm : m = 12) (hy : y < 9999) : ok (y + 1) 1 1 ∧ num (y + 1) 1 1 = num y m d + 1 := by
  obtain ⟨a, b, c, e, f, g⟩ := h
  subst hm
  have := dim_bd (y + 1) 1
  have h1 := mo_succ y 12 c e
  have h2 := yd_succ y
  have h3 := mo_13 y
  refine ⟨⟨by omega, by omega, by omega, by omega, by omega, by omega⟩, ?_⟩
  rw [num_one]
  unfold num
  rw [show (12 : Int) + 1 = 13 by rfl] at h1
  omega

/-- Each number within bounds has a date. -/
theorem month_of (y r : Int) (h0 : 0 ≤ r) (h1 : r < 365 + lp y) : ∃ m, 1 ≤ m ∧ m ≤ 12 ∧ mo y m ≤ r ∧ r < mo y m + dim y m := by
  have l := lp_01 y
  have hm : ∀ n : Nat, n ≤ 12 → r < mo y (n + 1) → ∃ m, 1 ≤ m ∧ m ≤ 12 ∧ mo y m ≤ r ∧ r < mo y m + dim y m := by
    intro n
    induction n with
    | zero => intro _ h; rw [show ((0 : Nat) : Int) + 1 = 1 by rfl, mo_one] at h; omega
    | succ n ih =>
      intro hn h
      by_cases c : r < mo y (n + 1)
      · exact ih (by omega) c
      · refine ⟨n + 1, by omega, by omega, by omega, ?_⟩
        have := mo_succ y (n + 1) (by omega) (by omega)
        push_cast at h
        omega
  exact hm 12 (Nat.le_refl _) (by show r < mo y 13; rw [mo_13]; omega)
theorem date_of (n : Int) (h1 : 1 ≤ n) (h2 : n ≤ 3652059) : ∃ y m d, ok y m d ∧ num y m d = n := by
  have hy : ∀ k : Nat, k ≤ 9999 → n < yd (k + 1) → ∃ y, 1 ≤ y ∧ y ≤ 9999 ∧ yd y ≤ n ∧ n < yd (y + 1) := by
    intro k
    induction k with
    | zero => intro _ h; rw [show ((0 : Nat) : Int) + 1 = 1 by rfl, yd_one] at h; omega
    | succ k ih =>
      intro hk h
      by_cases c : n < yd (k + 1)
      · exact ih (by omega) c
      · exact ⟨k + 1, by omega, by omega, by omega, by push_cast at h; exact h⟩
  obtain ⟨y, a, b, c, e⟩ := hy 9999 (Nat.le_refl _) (by show n < yd 10000; rw [yd_top]; omega)
  have s := yd_succ y
  obtain ⟨m, m1, m2, m3, m4⟩ := month_of y (n - yd y) (by omega) (by omega)
  refine ⟨y, m, n - yd y - mo y m + 1, ⟨a, b, m1, m2, by omega, by omega⟩, ?_⟩
  unfold num
  omega
end Go.Proofs.Ytioicmialbimfaa.Cal
end

section
namespace Go.Proofs.Ytioicmialbimfaa.XNum
set_option linter.unusedVariables false
set_option linter.unusedSimpArgs false
open Go.RowKit Go.Proofs.YtioicmialbimfaaW.PrintWords

theorem w64 {n : Int} (h0 : -9223372036854775808 ≤ n) (h1 : n ≤ 9223372036854775807) : wrap64 n = n := by
  unfold wrap64
  omega
theorem wf64 {a : Int} : (Lit.int .i64 a).wf = true ↔ -9223372036854775808 ≤ a ∧ a ≤ 9223372036854775807 := by
  simp only [Lit.wf, IntKind.min, IntKind.max, IntKind.signed, IntKind.bits, Bool.and_eq_true, decide_eq_true_eq, if_true]
  omega
theorem wfu64 {a : Int} : (Lit.int .u64 a).wf = true ↔ 0 ≤ a ∧ a ≤ 18446744073709551615 := by
  simp only [Lit.wf, IntKind.min, IntKind.max, IntKind.signed, IntKind.bits, Bool.and_eq_true, decide_eq_true_eq]
  simp
theorem wfu8 {a : Int} : (Lit.int .u8 a).wf = true ↔ 0 ≤ a ∧ a ≤ 255 := by
  simp only [Lit.wf, IntKind.min, IntKind.max, IntKind.signed, IntKind.bits, Bool.and_eq_true, decide_eq_true_eq]
  simp
theorem wfu16 {a : Int} : (Lit.int .u16 a).wf = true ↔ 0 ≤ a ∧ a ≤ 65535 := by
  simp only [Lit.wf, IntKind.min, IntKind.max, IntKind.signed, IntKind.bits, Bool.and_eq_true, decide_eq_true_eq]
  simp
theorem wfu32 {a : Int} : (Lit.int .u32 a).wf = true ↔ 0 ≤ a ∧ a ≤ 4294967295 := by
  simp only [Lit.wf, IntKind.min, IntKind.max, IntKind.signed, IntKind.bits, Bool.and_eq_true, decide_eq_true_eq]
  simp
theorem tm_nn {a k : Int} (h : 0 ≤ a) : Int.tmod a k = a % k := Int.tmod_eq_emod_of_nonneg h
theorem td_nn {a k : Int} (h : 0 ≤ a) : Int.tdiv a k = a / k := Int.tdiv_eq_ediv_of_nonneg h
theorem tm_neg {a k : Int} (h : a < 0) : Int.tmod a k = -((-a) % k) := by
  have h1 := Int.neg_tmod (-a) k
  rw [Int.neg_neg, tm_nn (a := -a) (by omega)] at h1
  exact h1
theorem td_neg {a k : Int} (h : a < 0) : Int.tdiv a k = -((-a) / k) := by
  have h1 := Int.neg_tdiv (-a) k
  rw [Int.neg_neg, td_nn (a := -a) (by omega)] at h1
  exact h1
theorem tm_zero {a k : Int} : Int.tmod a k = 0 ↔ a % k = 0 := by
  rw [← Int.dvd_iff_tmod_eq_zero, ← Int.dvd_iff_emod_eq_zero]
theorem tm_eq {a k : Int} : Int.tmod a k = if 0 ≤ a then a % k else -((-a) % k) := by
  split
  · exact tm_nn (by assumption)
  · exact tm_neg (by omega)
theorem td_eq {a k : Int} : Int.tdiv a k = if 0 ≤ a then a / k else -((-a) / k) := by
  split
  · exact td_nn (by assumption)
  · exact td_neg (by omega)

/-- From so many rounds on a call answers. -/
theorem ev_at {α : Type} {g : Nat → Option α} {r : α} (hg : ∀ k, LeO (g k) (g (k + 1))) {k : Nat} (h : g k = some r) : ∀ k', k ≤ k' → g k' = some r := fun _ hk => at_rounds hg hk h
theorem bind_some' {α β : Type} {o : Option α} {a : α} {f : α → Option β} (h : o = some a) : o.bind f = f a := by rw [h]; rfl
end Go.Proofs.Ytioicmialbimfaa.XNum
end

section
namespace Go.Proofs.Ytioicmialbimfaa.DayPure
set_option linter.unusedVariables false
set_option linter.unusedSimpArgs false
open Go.RowKit Go.Proofs.Ytioicmialbimfaa.S Go.Proofs.Ytioicmialbimfaa.XNum Go.Proofs.Ytioicmialbimfaa.Cal Go.Proofs.YtioicmialbimfaaW.PrintWords Go.Proofs.YtioicmialbimfaaW.PrintLast

theorem leap (y : Int) : day_Leap.f y = some (decide (lp y = 1)) := by
  have z4 : Int.tmod y 4 = 0 ↔ y % 4 = 0 := tm_zero
  have z100 : Int.tmod y 100 = 0 ↔ y % 100 = 0 := tm_zero
  have z400 : (Int.tmod y 400 == 0) = decide (y % 400 = 0) := by
    rw [Bool.eq_iff_iff]
    simp only [beq_iff_eq, decide_eq_true_eq]
    exact tm_zero
  unfold day_Leap.f lp
  rw [z400]
  by_cases h1 : y % 4 = 0
  · rw [if_pos (z4.2 h1)]
    by_cases h2 : y % 100 = 0
    · rw [if_pos (z100.2 h2)]
      by_cases h3 : y % 400 = 0 <;> simp [h1, h2, h3]
    · rw [if_neg (mt z100.1 h2)]
      simp [h1, h2]
  · rw [if_neg (mt z4.1 h1)]
    simp [h1]

/-- How many days a month has; 0 of none. -/
def last (y m : Int) : Int := if 1 ≤ y ∧ y ≤ 9999 ∧ 1 ≤ m ∧ m ≤ 12 then dim y m else 0

theorem last_k (k : Nat) (y m : Int) : day_Last.f (k + 2) y m = some (last y m) := by
  have hl := lp_01 y
  have j1 : ∀ b, day_Last.j1 (k + 1) y m b = if b = true then some 30 else if m = 2 then some (28 + lp y) else some 31 := by
    intro b
    simp only [day_Last.j1, leap, Option.bind_some]
    split
    · rfl
    · split
      · by_cases h : lp y = 1
        · simp [h]
        · have : lp y = 0 := by omega
          simp [this]
      · rfl
  have j0t : day_Last.j0 (k + 2) y m true = some 0 := by simp only [day_Last.j0, if_true]
  have j0f : day_Last.j0 (k + 2) y m false = some (dim y m) := by
    simp only [day_Last.j0, j1, dim]
    simp only [Bool.false_eq_true, if_false, beq_iff_eq]
    repeat' split
    all_goals (first | rfl | omega | (simp_all; done) | (exfalso; simp_all; done) | simp_all)
  unfold day_Last.f last
  by_cases h1 : y < 1
  · rw [if_pos h1, j0t, if_neg (by omega)]
  · rw [if_neg h1]
    by_cases h2 : y > 9999
    · rw [if_pos h2, j0t, if_neg (by omega)]
    · rw [if_neg h2]
      by_cases h3 : m < 1
      · rw [if_pos h3, j0t, if_neg (by omega)]
      · rw [if_neg h3]
        by_cases h4 : m > 12
        · rw [decide_eq_true h4, j0t, if_neg (by omega)]
        · rw [decide_eq_false h4, j0f, if_pos (by omega)]

theorem last_ev (y m : Int) (k : Nat) (hk : 2 ≤ k) : day_Last.f k y m = some (last y m) := by
  obtain ⟨n, rfl⟩ : ∃ n, k = n + 2 := ⟨k - 2, by omega⟩
  exact last_k n y m

theorem number_ok (y m d : Int) (h1 : 1 ≤ y) (h2 : y ≤ 10000) (h3 : 1 ≤ m) (h4 : m ≤ 13) (h5 : -5000000 ≤ d) (h6 : d ≤ 5000000) : day_number.f y m d = some (num y m d) := by
  have l := lp_eq y
  unfold day_number.f num yd mo
  rw [w64 (n := m - 3) (by omega) (by omega)]
  by_cases c : m - 3 < 0
  · rw [if_pos c, if_pos (by omega)]
    rw [w64 (n := y - 1) (by omega) (by omega), td_nn (by omega), td_nn (by omega), td_nn (by omega), w64 (n := m - 3 + 12) (by omega) (by omega), w64 (n := (m - 3 + 12) * 153) (by omega) (by omega),
      w64 (n := (m - 3 + 12) * 153 + 2) (by omega) (by omega), td_nn (by omega)]
    rw [w64 (n := (y - 1) * 365) (by omega) (by omega), w64 (n := (y - 1) / 4) (by omega) (by omega), w64 (n := (y - 1) / 100) (by omega) (by omega), w64 (n := (y - 1) / 400) (by omega) (by omega),
      w64 (n := ((m - 3 + 12) * 153 + 2) / 5) (by omega) (by omega)]
    rw [w64 (n := (y - 1) * 365 + (y - 1) / 4) (by omega) (by omega), w64 (n := (y - 1) * 365 + (y - 1) / 4 - (y - 1) / 100) (by omega) (by omega), w64 (n := (y - 1) * 365 + (y - 1) / 4 - (y - 1) / 100 + (y - 1) / 400) (by omega) (by omega)]
    rw [w64 (n := (y - 1) * 365 + (y - 1) / 4 - (y - 1) / 100 + (y - 1) / 400 + ((m - 3 + 12) * 153 + 2) / 5) (by omega) (by omega)]
    rw [w64 (n := (y - 1) * 365 + (y - 1) / 4 - (y - 1) / 100 + (y - 1) / 400 + ((m - 3 + 12) * 153 + 2) / 5 + d) (by omega) (by omega), w64 (by omega) (by omega)]
    congr 1
    omega
  · rw [if_neg c, if_neg (by omega)]
    rw [td_nn (by omega), td_nn (by omega), td_nn (by omega), w64 (n := (m - 3) * 153) (by omega) (by omega),
      w64 (n := (m - 3) * 153 + 2) (by omega) (by omega), td_nn (by omega)]
    rw [w64 (n := y * 365) (by omega) (by omega), w64 (n := y / 4) (by omega) (by omega), w64 (n := y / 100) (by omega) (by omega), w64 (n := y / 400) (by omega) (by omega),
      w64 (n := ((m - 3) * 153 + 2) / 5) (by omega) (by omega)]
    rw [w64 (n := y * 365 + y / 4) (by omega) (by omega), w64 (n := y * 365 + y / 4 - y / 100) (by omega) (by omega), w64 (n := y * 365 + y / 4 - y / 100 + y / 400) (by omega) (by omega)]
    rw [w64 (n := y * 365 + y / 4 - y / 100 + y / 400 + ((m - 3) * 153 + 2) / 5) (by omega) (by omega)]
    rw [w64 (n := y * 365 + y / 4 - y / 100 + y / 400 + ((m - 3) * 153 + 2) / 5 + d) (by omega) (by omega), w64 (by omega) (by omega)]
    congr 1
    omega

theorem ok_last {y m d : Int} : ok y m d ↔ 1 ≤ d ∧ d ≤ last y m := by
  have := dim_bd y m
  unfold ok last
  split <;> omega

theorem from_ok {y m d : Int} (h : ok y m d) (k : Nat) (hk : 2 ≤ k) : day_From.f k y m d = some (num y m d, 0) := by
  have h' := ok_last.1 h
  obtain ⟨a, b, c, e, f, g⟩ := h
  have := dim_bd y m
  unfold day_From.f
  rw [if_neg (by omega), last_ev y m k hk]
  simp only [Option.bind_some]
  rw [if_neg (by omega), number_ok y m d (by omega) (by omega) (by omega) (by omega) (by omega) (by omega)]
  rfl
theorem from_no {y m d : Int} (h : ¬ ok y m d) (k : Nat) (hk : 2 ≤ k) : day_From.f k y m d = some (0, 5) := by
  have h' := mt ok_last.2 h
  unfold day_From.f
  by_cases c : d < 1
  · rw [if_pos c]
  · rw [if_neg c, last_ev y m k hk]
    simp only [Option.bind_some]
    rw [if_pos (by omega)]

/-- The months' loop, from a month that isn't beyond the number's. -/
theorem months (y n : Int) (d : Nat) : ∀ (k : Nat) (m : Int), 1 ≤ y → y ≤ 9999 → 1 ≤ m → m ≤ 12 → (12 - m).toNat = d → d < k → num y m 1 ≤ n → (y < 9999 → n < yd (y + 1)) → n ≤ 3652059 →
    ∃ m' d', ok y m' d' ∧ num y m' d' = n ∧ day_To.l1 k n y m 1 = some (y, m', d', 0) := by
  induction d with
  | zero =>
    intro k m h1 h2 h3 h4 hd hk h5 h6 h7
    obtain ⟨k, rfl⟩ : ∃ j, k = j + 1 := ⟨k - 1, by omega⟩
    have hm : m = 12 := by omega
    subst hm
    have s := mo_succ y 12 (by omega) (by omega)
    have b := mo_13 y
    have u := yd_succ y
    have hb := dim_bd y 12
    have hn : n < yd (y + 1) := by
      by_cases c : y < 9999
      · exact h6 c
      · have : y = 9999 := by omega
        subst this
        show n < yd 10000
        rw [yd_top]
        omega
    rw [show (12 : Int) + 1 = 13 by rfl] at s
    have hnum : num y 12 1 = yd y + mo y 12 := by unfold num; omega
    refine ⟨12, 1 + (n - num y 12 1), ⟨h1, h2, by omega, by omega, by omega, by omega⟩, by rw [num_day]; omega, ?_⟩
    simp only [day_To.l1]
    rw [if_neg (by omega), number_ok y 12 1 (by omega) (by omega) (by omega) (by omega) (by omega) (by omega)]
    simp only [Option.bind_some]
    have hr := yd_mono (a := y + 1) (b := 10000) (by omega)
    rw [yd_top] at hr
    rw [w64 (n := n - num y 12 1) (by omega) (by omega), w64 (by omega) (by omega)]
  | succ d ih =>
    intro k m h1 h2 h3 h4 hd hk h5 h6 h7
    obtain ⟨k, rfl⟩ : ∃ j, k = j + 1 := ⟨k - 1, by omega⟩
    have s := mo_succ y m (by omega) (by omega)
    have hb := dim_bd y m
    simp only [day_To.l1]
    rw [if_pos (by omega), w64 (n := m + 1) (by omega) (by omega), number_ok y (m + 1) 1 (by omega) (by omega) (by omega) (by omega) (by omega) (by omega)]
    simp only [Option.bind_some]
    by_cases c : num y (m + 1) 1 ≤ n
    · rw [if_pos c]
      exact ih k (m + 1) h1 h2 (by omega) (by omega) (by omega) (by omega) c h6 h7
    · rw [if_neg c, number_ok y m 1 (by omega) (by omega) (by omega) (by omega) (by omega) (by omega)]
      simp only [Option.bind_some]
      have e1 : num y (m + 1) 1 = num y m 1 + dim y m := by unfold num; omega
      refine ⟨m, 1 + (n - num y m 1), ⟨h1, h2, h3, h4, by omega, by omega⟩, by rw [num_day]; omega, ?_⟩
      rw [w64 (n := n - num y m 1) (by omega) (by omega), w64 (by omega) (by omega)]

/-- The years' loop. -/
theorem years (n : Int) (d : Nat) : ∀ (k : Nat) (y : Int), 1 ≤ y → y ≤ 9999 → (9999 - y).toNat = d → d + 14 < k → yd y ≤ n → n ≤ 3652059 →
    ∃ y' m' d', ok y' m' d' ∧ num y' m' d' = n ∧ day_To.l0 k n y 1 1 = some (y', m', d', 0) := by
  have fin : ∀ (k : Nat) (y : Int), 14 ≤ k → 1 ≤ y → y ≤ 9999 → yd y ≤ n → n ≤ 3652059 → (y < 9999 → n < yd (y + 1)) → ∃ y' m' d', ok y' m' d' ∧ num y' m' d' = n ∧ day_To.j2 k n y 1 1 = some (y', m', d', 0) := by
    intro k y hk h1 h2 h3 h4 h5
    obtain ⟨k, rfl⟩ : ∃ j, k = j + 1 := ⟨k - 1, by omega⟩
    obtain ⟨m', d', a, b, c⟩ := months y n 11 k 1 h1 h2 (by omega) (by omega) (by omega) (by omega) (by rw [num_one]; exact h3) h5 h4
    exact ⟨y, m', d', a, b, by simp only [day_To.j2]; exact c⟩
  induction d with
  | zero =>
    intro k y h1 h2 hd hk h3 h4
    obtain ⟨k, rfl⟩ : ∃ j, k = j + 1 := ⟨k - 1, by omega⟩
    simp only [day_To.l0]
    rw [if_neg (by omega)]
    exact fin k y (by omega) h1 h2 h3 h4 (fun h => by omega)
  | succ d ih =>
    intro k y h1 h2 hd hk h3 h4
    obtain ⟨k, rfl⟩ : ∃ j, k = j + 1 := ⟨k - 1, by omega⟩
    simp only [day_To.l0]
    rw [if_pos (by omega), w64 (n := y + 1) (by omega) (by omega), number_ok (y + 1) 1 1 (by omega) (by omega) (by omega) (by omega) (by omega) (by omega)]
    simp only [Option.bind_some]
    rw [num_one]
    by_cases c : yd (y + 1) ≤ n
    · rw [if_pos c]
      exact ih k (y + 1) (by omega) (by omega) (by omega) (by omega) c h4
    · rw [if_neg c]
      exact fin k y (by omega) h1 h2 h3 h4 (fun _ => by omega)

theorem to_ok {n : Int} (h1 : 1 ≤ n) (h2 : n ≤ 3652059) : ∃ y m d, ok y m d ∧ num y m d = n ∧ ∀ k, 20000 ≤ k → day_To.f k n = some (y, m, d, 0) := by
  have hy : 1 ≤ mx 1 (n / 366) ∧ mx 1 (n / 366) ≤ 9999 ∧ yd (mx 1 (n / 366)) ≤ n := by
    unfold mx yd
    split <;> omega
  obtain ⟨a, b, c⟩ := hy
  have hk : ∀ k, 19000 ≤ k → ∃ y' m' d', ok y' m' d' ∧ num y' m' d' = n ∧ day_To.l0 k n (mx 1 (n / 366)) 1 1 = some (y', m', d', 0) := by
    intro k hk
    exact years n _ k _ a b rfl (by omega) c h2
  obtain ⟨y, m, d, o, e, _⟩ := hk 19000 (Nat.le_refl _)
  refine ⟨y, m, d, o, e, fun k hkk => ?_⟩
  obtain ⟨k, rfl⟩ : ∃ j, k = j + 1 := ⟨k - 1, by omega⟩
  obtain ⟨y', m', d', o', e', f'⟩ := hk k (by omega)
  obtain ⟨rfl, rfl, rfl⟩ := num_inj o o' (by omega)
  unfold day_To.f
  rw [if_neg (by omega), decide_eq_false (by omega)]
  simp only [day_To.j0, Bool.false_eq_true, if_false]
  rw [td_nn (by omega), w64 (n := n / 366) (by omega) (by omega)]
  exact f'
theorem to_no {n : Int} (h : n < 1 ∨ 3652059 < n) (k : Nat) (hk : 1 ≤ k) : day_To.f k n = some (0, 0, 0, 5) := by
  obtain ⟨k, rfl⟩ : ∃ j, k = j + 1 := ⟨k - 1, by omega⟩
  have t : day_To.j0 (k + 1) n true = some (0, 0, 0, 5) := by simp only [day_To.j0, if_true]
  unfold day_To.f
  by_cases c : n < 1
  · rw [if_pos c, t]
  · rw [if_neg c, decide_eq_true (by omega), t]
/-- The date of a date's number. -/
theorem to_num {y m d : Int} (h : ok y m d) (k : Nat) (hk : 20000 ≤ k) : day_To.f k (num y m d) = some (y, m, d, 0) := by
  have r := num_range h
  obtain ⟨y', m', d', o, e, f⟩ := to_ok r.1 r.2
  obtain ⟨rfl, rfl, rfl⟩ := num_inj h o e.symm
  exact f k hk

end Go.Proofs.Ytioicmialbimfaa.DayPure
end

section
namespace Go.Proofs.Ytioicmialbimfaa.DayRef
set_option linter.unusedVariables false
set_option linter.unusedSimpArgs false
open Go.RowKit Go.Proofs.Ytioicmialbimfaa.S Go.Proofs.Ytioicmialbimfaa.XNum Go.Proofs.Ytioicmialbimfaa.Cal Go.Proofs.Ytioicmialbimfaa.DayPure Go.Proofs.YtioicmialbimfaaW.PrintWords Go.Proofs.YtioicmialbimfaaW.PrintLast

theorem leap (y : Int) : lombardref04_Leap.f y = some (decide (lp y = 1)) := by
  have z4 : Int.tmod y 4 = 0 ↔ y % 4 = 0 := tm_zero
  have z100 : Int.tmod y 100 = 0 ↔ y % 100 = 0 := tm_zero
  have z400 : (Int.tmod y 400 == 0) = decide (y % 400 = 0) := by
    rw [Bool.eq_iff_iff]
    simp only [beq_iff_eq, decide_eq_true_eq]
    exact tm_zero
  unfold lombardref04_Leap.f lp
  rw [z400]
  by_cases h1 : y % 4 = 0
  · rw [if_pos (z4.2 h1)]
    by_cases h2 : y % 100 = 0
    · rw [if_pos (z100.2 h2)]
      by_cases h3 : y % 400 = 0 <;> simp [h1, h2, h3]
    · rw [if_neg (mt z100.1 h2)]
      simp [h1, h2]
  · rw [if_neg (mt z4.1 h1)]
    have h3 : ¬ y % 400 = 0 := by omega
    simp [h1, h3]

theorem rlast (y m : Int) : lombardref04_Last.f y m = some (last y m) := by
  have hl := lp_01 y
  unfold lombardref04_Last.f
  rw [leap]
  simp only [Option.bind_some]
  by_cases h1 : y < 1
  · rw [if_pos h1]
    unfold last
    rw [if_neg (by omega)]
  rw [if_neg h1]
  by_cases h2 : y > 9999
  · rw [if_pos h2]
    unfold last
    rw [if_neg (by omega)]
  rw [if_neg h2]
  by_cases h3 : m < 1
  · rw [if_pos h3]
    unfold last
    rw [if_neg (by omega)]
  rw [if_neg h3]
  by_cases h4 : m > 12
  · rw [if_pos h4]
    unfold last
    rw [if_neg (by omega)]
  rw [if_neg h4]
  have hd : last y m = dim y m := by
    unfold last
    rw [if_pos (by omega)]
  rw [hd]
  unfold dim
  by_cases h5 : m = 2
  · subst h5
    by_cases c : lp y = 1
    · simp [c]
    · have : lp y = 0 := by omega
      simp [this]
  · simp [h5]

/-- The months' loop. -/
theorem to_l1 (y n : Int) (h1 : 1 ≤ y) (h2 : y ≤ 9999) (hn : n < yd (y + 1)) (d : Nat) : ∀ (k : Nat) (m : Int), 1 ≤ m → m ≤ 12 → (12 - m).toNat = d → d < k → num y m 1 ≤ n →
    ∃ m' d', ok y m' d' ∧ num y m' d' = n ∧ lombardref04_To.l1 k y m (n - num y m 0) = some (y, m', d', 0) := by
  have r1 := yd_mono (a := 1) (b := y) h1
  have r2 := yd_mono (a := y + 1) (b := 10000) (by omega)
  have s' := yd_succ y
  rw [yd_one] at r1
  rw [yd_top] at r2
  have hl := lp_01 y
  induction d with
  | zero =>
    intro k m a b hd hk h5
    obtain ⟨k, rfl⟩ : ∃ j, k = j + 1 := ⟨k - 1, by omega⟩
    have hm : m = 12 := by omega
    subst hm
    have s := mo_succ y 12 (by omega) (by omega)
    have t := mo_13 y
    rw [show (12 : Int) + 1 = 13 by rfl] at s
    have d12 : dim y 12 = 31 := by simp [dim]
    have hlast : last y 12 = dim y 12 := by
      unfold last
      rw [if_pos (by omega)]
    have en : num y 12 0 = yd y + mo y 12 - 1 := by unfold num; omega
    have en1 : num y 12 1 = yd y + mo y 12 := by unfold num; omega
    refine ⟨12, n - num y 12 0, ⟨h1, h2, by omega, by omega, by omega, by omega⟩, by unfold num; omega, ?_⟩
    simp only [lombardref04_To.l1, rlast, Option.bind_some]
    rw [if_neg (by omega)]
  | succ d ih =>
    intro k m a b hd hk h5
    obtain ⟨k, rfl⟩ : ∃ j, k = j + 1 := ⟨k - 1, by omega⟩
    have s := mo_succ y m (by omega) (by omega)
    have hb := dim_bd y m
    have q' := mo_le y (a := 1) (b := m) (by omega) (by omega) (by omega)
    have q := mo_le y (a := m) (b := 13) (by omega) (by omega) (by omega)
    rw [mo_13] at q
    rw [mo_one] at q'
    have hlast : last y m = dim y m := by
      unfold last
      rw [if_pos (by omega)]
    have en : num y m 0 = yd y + mo y m - 1 := by unfold num; omega
    have en1 : num y m 1 = yd y + mo y m := by unfold num; omega
    have en2 : num y (m + 1) 1 = yd y + mo y m + dim y m := by unfold num; omega
    have en3 : num y (m + 1) 0 = yd y + mo y m + dim y m - 1 := by unfold num; omega
    simp only [lombardref04_To.l1, rlast, Option.bind_some]
    rw [hlast]
    by_cases c : n - num y m 0 > dim y m
    · have := ih k (m + 1) (by omega) (by omega) (by omega) (by omega) (by omega)
      rw [if_pos c, w64 (n := m + 1) (by omega) (by omega), w64 (by omega) (by omega), show n - num y m 0 - dim y m = n - num y (m + 1) 0 by omega]
      exact this
    · rw [if_neg c]
      exact ⟨m, n - num y m 0, ⟨h1, h2, a, b, by omega, by omega⟩, by unfold num; omega, rfl⟩

/-- The years' loop. -/
theorem to_l0 (n : Int) (h4 : n ≤ 3652059) (d : Nat) : ∀ (k : Nat) (y : Int), 1 ≤ y → y ≤ 9999 → (9999 - y).toNat = d → d + 20 < k → yd y ≤ n →
    ∃ y' m' d', ok y' m' d' ∧ num y' m' d' = n ∧ lombardref04_To.l0 k y 1 (n - yd y + 1) = some (y', m', d', 0) := by
  have fin : ∀ (k : Nat) (y : Int), 14 ≤ k → 1 ≤ y → y ≤ 9999 → yd y ≤ n → n < yd (y + 1) → ∃ y' m' d', ok y' m' d' ∧ num y' m' d' = n ∧ lombardref04_To.j2 k y 1 (n - yd y + 1) = some (y', m', d', 0) := by
    intro k y hk h1 h2 h3 h5
    obtain ⟨k, rfl⟩ : ∃ j, k = j + 1 := ⟨k - 1, by omega⟩
    obtain ⟨m', d', a, b, c⟩ := to_l1 y n h1 h2 h5 11 k 1 (by omega) (by omega) (by omega) (by omega) (by rw [num_one]; exact h3)
    have e0 : num y 1 0 = yd y - 1 := by unfold num; rw [mo_one]; omega
    rw [e0, show n - (yd y - 1) = n - yd y + 1 by omega] at c
    exact ⟨y, m', d', a, b, by simp only [lombardref04_To.j2]; exact c⟩
  induction d with
  | zero =>
    intro k y h1 h2 hd hk h3
    obtain ⟨k, rfl⟩ : ∃ j, k = j + 1 := ⟨k - 1, by omega⟩
    have hy : y = 9999 := by omega
    subst hy
    have t := yd_top
    have s := yd_succ 9999
    rw [show (9999 : Int) + 1 = 10000 by rfl] at s
    have l9 : lp 9999 = 0 := by decide
    have := fin k 9999 (by omega) (by omega) (by omega) h3 (by show n < yd 10000; omega)
    simp only [lombardref04_To.l0, leap, Option.bind_some]
    rw [l9, if_neg (by decide), if_pos (by omega)]
    exact this
  | succ d ih =>
    intro k y h1 h2 hd hk h3
    obtain ⟨k, rfl⟩ : ∃ j, k = j + 1 := ⟨k - 1, by omega⟩
    have hl := lp_01 y
    have s := yd_succ y
    have r1 := yd_mono (a := 1) (b := y) h1
    have r2 := yd_mono (a := y + 1) (b := 10000) (by omega)
    rw [yd_one] at r1
    rw [yd_top] at r2
    have ih' := fun hh => ih k (y + 1) (by omega) (by omega) (by omega) (by omega) hh
    have fin' := fun hh => fin k y (by omega) h1 h2 h3 hh
    simp only [lombardref04_To.l0, leap, Option.bind_some]
    rw [w64 (n := y + 1) (by omega) (by omega)]
    by_cases c : lp y = 1
    · rw [if_pos (decide_eq_true c)]
      by_cases c2 : n - yd y + 1 ≤ 366
      · rw [if_pos c2]
        exact fin' (by omega)
      · rw [if_neg c2, w64 (by omega) (by omega), show n - yd y + 1 - 366 = n - yd (y + 1) + 1 by omega]
        exact ih' (by omega)
    · have c0 : lp y = 0 := by omega
      rw [if_neg (by simp [c])]
      by_cases c2 : n - yd y + 1 ≤ 365
      · rw [if_pos c2]
        exact fin' (by omega)
      · rw [if_neg c2, w64 (by omega) (by omega), show n - yd y + 1 - 365 = n - yd (y + 1) + 1 by omega]
        exact ih' (by omega)

theorem to_num {y m d : Int} (h : ok y m d) (k : Nat) (hk : 20000 ≤ k) : lombardref04_To.f k (num y m d) = some (y, m, d, 0) := by
  obtain ⟨k, rfl⟩ : ∃ j, k = j + 1 := ⟨k - 1, by omega⟩
  have r := num_range h
  obtain ⟨y', m', d', o, e, f⟩ := to_l0 (num y m d) r.2 9998 k 1 (by omega) (by omega) (by omega) (by omega) (by rw [yd_one]; omega)
  obtain ⟨rfl, rfl, rfl⟩ := num_inj o h e
  rw [yd_one, show num y' m' d' - 1 + 1 = num y' m' d' by omega] at f
  unfold lombardref04_To.f
  rw [if_neg (by omega), decide_eq_false (by omega)]
  simp only [lombardref04_To.j0, Bool.false_eq_true, if_false]
  exact f
theorem to_no {n : Int} (h : n < 1 ∨ 3652059 < n) (k : Nat) (hk : 1 ≤ k) : lombardref04_To.f k n = some (0, 0, 0, 5) := by
  obtain ⟨k, rfl⟩ : ∃ j, k = j + 1 := ⟨k - 1, by omega⟩
  have t : lombardref04_To.j0 (k + 1) n true = some (0, 0, 0, 5) := by simp only [lombardref04_To.j0, if_true]
  unfold lombardref04_To.f
  by_cases c : n < 1
  · rw [if_pos c, t]
  · rw [if_neg c, decide_eq_true (by omega), t]
end Go.Proofs.Ytioicmialbimfaa.DayRef
end

section
namespace Go.Proofs.Ytioicmialbimfaa.Rnd
set_option linter.unusedVariables false
set_option linter.unusedSimpArgs false

/-- A over b rounded to the nearer whole number, to the even one of two; b above 0. -/
def near (A b : Int) : Int := if 2 * (A % b) > b ∨ 2 * (A % b) = b ∧ (A / b) % 2 = 1 then A / b + 1 else A / b

theorem div_split (A b : Int) (hb : 0 < b) : A = b * (A / b) + A % b ∧ 0 ≤ A % b ∧ A % b < b :=
  ⟨(Int.mul_ediv_add_emod A b).symm, Int.emod_nonneg A (by omega), Int.emod_lt_of_pos A hb⟩

theorem near_spec {A b : Int} (hb : 0 < b) : 2 * (b * near A b) ≤ 2 * A + b ∧ 2 * A ≤ 2 * (b * near A b) + b ∧
    (2 * (b * near A b) = 2 * A + b ∨ 2 * A = 2 * (b * near A b) + b → near A b % 2 = 0) := by
  obtain ⟨h, h0, h1⟩ := div_split A b hb
  unfold near
  generalize A % b = r at *
  generalize A / b = q at *
  split
  · rw [Int.mul_add, Int.mul_one]
    generalize b * q = m at *
    refine ⟨by omega, by omega, by omega⟩
  · generalize b * q = m at *
    refine ⟨by omega, by omega, by omega⟩

theorem mul_step {b N M : Int} (hb : 0 < b) (h : N < M) : b * N + b ≤ b * M := by
  have : b * (N + 1) ≤ b * M := Int.mul_le_mul_of_nonneg_left (by omega) (by omega)
  rw [Int.mul_add, Int.mul_one] at this
  exact this

theorem near_mono {A A' b : Int} (hb : 0 < b) (h : A ≤ A') : near A b ≤ near A' b := by
  obtain ⟨a1, a2, a3⟩ := near_spec (A := A) hb
  obtain ⟨b1, b2, b3⟩ := near_spec (A := A') hb
  generalize near A b = N at *
  generalize near A' b = M at *
  by_cases c : N ≤ M
  · exact c
  have s := mul_step hb (show M < N by omega)
  have s2 : M + 2 ≤ N → b * M + 2 * b ≤ b * N := fun h => by
    have := mul_step hb (show M < M + 1 by omega)
    have := mul_step hb (show M + 1 < N by omega)
    omega
  by_cases d : M + 2 ≤ N
  · have := s2 d
    omega
  have e : N = M + 1 := by omega
  subst e
  rw [Int.mul_add, Int.mul_one] at *
  omega

theorem near_uniq {A b N : Int} (hb : 0 < b) (h1 : 2 * (b * N) ≤ 2 * A + b) (h2 : 2 * A ≤ 2 * (b * N) + b)
    (h3 : 2 * (b * N) = 2 * A + b ∨ 2 * A = 2 * (b * N) + b → N % 2 = 0) : near A b = N := by
  obtain ⟨a1, a2, a3⟩ := near_spec (A := A) hb
  generalize near A b = M at *
  rcases Int.lt_trichotomy M N with c | c | c
  · have s := mul_step hb c
    by_cases d : M + 2 ≤ N
    · have := mul_step hb (show M < M + 1 by omega)
      have := mul_step hb (show M + 1 < N by omega)
      omega
    have e : N = M + 1 := by omega
    subst e
    rw [Int.mul_add, Int.mul_one] at *
    omega
  · exact c
  · have s := mul_step hb c
    by_cases d : N + 2 ≤ M
    · have := mul_step hb (show N < N + 1 by omega)
      have := mul_step hb (show N + 1 < M by omega)
      omega
    have e : M = N + 1 := by omega
    subst e
    rw [Int.mul_add, Int.mul_one] at *
    omega

theorem near_neg {A b : Int} (hb : 0 < b) : near (-A) b = -near A b := by
  obtain ⟨a1, a2, a3⟩ := near_spec (A := A) hb
  have e : b * -near A b = -(b * near A b) := Int.mul_neg _ _
  refine near_uniq hb ?_ ?_ ?_ <;> rw [e] <;> omega

theorem near_exact {b N : Int} (hb : 0 < b) : near (b * N) b = N := near_uniq hb (by omega) (by omega) (by omega)

/-- of an amount of 0 or more -/
theorem near_nn {A b : Int} (hb : 0 < b) (h : 0 ≤ A) : 0 ≤ near A b := by
  have := near_mono hb h
  have e : near (b * 0) b = 0 := near_exact hb
  rw [Int.mul_zero] at e
  omega

/-- the quotient: way 0 downwards, way 1 to the nearer one -/
def rnd (A b way : Int) : Int := if way = 0 then (if b < 0 then (-A) / (-b) else A / b) else (if b < 0 then near (-A) (-b) else near A b)

theorem floor_neg {X b : Int} (hb : 0 < b) : (-X) / b = -(X / b + if X % b > 0 then 1 else 0) := by
  obtain ⟨h, h0, h1⟩ := div_split X b hb
  obtain ⟨g, g0, g1⟩ := div_split (-X) b hb
  generalize X % b = r at *
  generalize X / b = q at *
  generalize (-X) % b = r' at *
  generalize (-X) / b = q' at *
  -- b q' + r' = -(b q + r)
  split
  · rcases Int.lt_trichotomy q' (-(q + 1)) with c | c | c
    · have := mul_step hb c
      rw [Int.mul_neg, Int.mul_add, Int.mul_one] at this
      omega
    · omega
    · have := mul_step hb c
      rw [Int.mul_neg, Int.mul_add, Int.mul_one] at this
      omega
  · rcases Int.lt_trichotomy q' (-q) with c | c | c
    · have := mul_step hb c
      rw [Int.mul_neg] at this
      omega
    · omega
    · have := mul_step hb c
      rw [Int.mul_neg] at this
      omega

/-- whether the size of a quotient is rounded up -/
def upf (way X y : Int) (less : Bool) : Bool := if way = 0 then less && decide (X % y > 0) else decide (2 * (X % y) > y ∨ 2 * (X % y) = y ∧ (X / y) % 2 = 1)
/-- by sizes and signs, as the code does it -/
theorem rnd_sizes {A b way X y : Int} (hw : way = 0 ∨ way = 1) (hb : b ≠ 0) (hX : X = if A < 0 then -A else A) (hy : y = if b < 0 then -b else b) :
    rnd A b way = if (decide (A < 0) != decide (b < 0)) = true then -(X / y + (if upf way X y (decide (A < 0) != decide (b < 0)) = true then 1 else 0)) else X / y + (if upf way X y (decide (A < 0) != decide (b < 0)) = true then 1 else 0) := by
  unfold upf
  have hy0 : 0 < y := by subst hy; split <;> omega
  have hX0 : 0 ≤ X := by subst hX; split <;> omega
  rcases hw with rfl | rfl
  · unfold rnd
    rw [if_pos rfl]
    simp only [if_true]
    by_cases c : A < 0
    · rw [if_pos c] at hX
      by_cases d : b < 0
      · rw [if_pos d] at hy ⊢
        rw [decide_eq_true c, decide_eq_true d, ← hX, ← hy]
        simp
      · rw [if_neg d] at hy ⊢
        rw [decide_eq_true c, decide_eq_false d, ← hy]
        have : A = -X := by omega
        rw [this, floor_neg hy0]
        simp
    · rw [if_neg c] at hX
      by_cases d : b < 0
      · rw [if_pos d] at hy ⊢
        rw [decide_eq_false c, decide_eq_true d, ← hX, ← hy, floor_neg hy0]
        simp
      · rw [if_neg d] at hy ⊢
        rw [decide_eq_false c, decide_eq_false d, ← hX, ← hy]
        simp
  · unfold rnd
    rw [if_neg (by omega)]
    simp only [show ((1 : Int) = 0) = False by simp, if_false]
    have hn : (X / y + if decide (2 * (X % y) > y ∨ 2 * (X % y) = y ∧ X / y % 2 = 1) = true then 1 else 0) = near X y := by
      unfold near
      simp only [decide_eq_true_eq]
      split <;> omega
    rw [hn]
    by_cases c : A < 0
    · rw [if_pos c] at hX
      by_cases d : b < 0
      · rw [if_pos d] at hy ⊢
        rw [decide_eq_true c, decide_eq_true d, ← hX, ← hy]
        simp
      · rw [if_neg d] at hy ⊢
        rw [decide_eq_true c, decide_eq_false d, ← hy]
        have : A = -X := by omega
        rw [this, near_neg hy0]
        simp
    · rw [if_neg c] at hX
      by_cases d : b < 0
      · rw [if_pos d] at hy ⊢
        rw [decide_eq_false c, decide_eq_true d, ← hX, ← hy, near_neg hy0]
        simp
      · rw [if_neg d] at hy ⊢
        rw [decide_eq_false c, decide_eq_false d, ← hX, ← hy]
        simp
end Go.Proofs.Ytioicmialbimfaa.Rnd
end

section
namespace Go.Proofs.Ytioicmialbimfaa.Knuth
set_option linter.unusedVariables false
set_option linter.unusedSimpArgs false

theorem ltge (a b : Int) : a < b ∨ b ≤ a := by omega
/-- A quotient by its rest. -/
theorem quot_uniq {A b q r : Int} (hb : 0 < b) (h : A = b * q + r) (h0 : 0 ≤ r) (h1 : r < b) : A / b = q ∧ A % b = r := by
  have := Int.mul_ediv_add_emod A b
  have p0 := Int.emod_nonneg A (show b ≠ 0 by omega)
  have p1 := Int.emod_lt_of_pos A hb
  generalize A / b = q' at *
  generalize A % b = r' at *
  have e : b * (q' - q) = r - r' := by rw [Int.mul_sub]; omega
  have k : q' - q = 0 := by
    rcases Int.lt_trichotomy (q' - q) 0 with c | c | c
    · have : b * (q' - q) ≤ b * (-1) := Int.mul_le_mul_of_nonneg_left (by omega) (by omega)
      omega
    · exact c
    · have : b * 1 ≤ b * (q' - q) := Int.mul_le_mul_of_nonneg_left (by omega) (by omega)
      omega
  rw [k, Int.mul_zero] at e
  omega

/-- the first guess: no less than the quotient, and at most one beyond a digit -/
theorem guess {Y y1 y0 U u : Int} (hY : Y = y1 * 4294967296 + y0) (h1 : 2147483648 ≤ y1) (h00 : 0 ≤ y0) (h01 : y0 < 4294967296)
    (hU0 : 0 ≤ U) (hU : U < Y) (hu0 : 0 ≤ u) (hu : u < 4294967296) :
    (U * 4294967296 + u) / Y ≤ U / y1 ∧ U / y1 ≤ 4294967297 ∧ 0 ≤ (U * 4294967296 + u) / Y ∧ (U * 4294967296 + u) / Y ≤ 4294967295 := by
  have hy : 0 < Y := by omega
  have a := Int.mul_ediv_add_emod U y1
  have a0 := Int.emod_nonneg U (show y1 ≠ 0 by omega)
  have a1 := Int.emod_lt_of_pos U (show 0 < y1 by omega)
  have b := Int.mul_ediv_add_emod (U * 4294967296 + u) Y
  have b0 := Int.emod_nonneg (U * 4294967296 + u) (show Y ≠ 0 by omega)
  have b1 := Int.emod_lt_of_pos (U * 4294967296 + u) hy
  generalize U / y1 = g at *
  generalize U % y1 = r at *
  generalize (U * 4294967296 + u) / Y = q at *
  generalize (U * 4294967296 + u) % Y = t at *
  have q0 : 0 ≤ q := by
    rcases ltge q 0 with c | c
    · have : Y * q ≤ Y * (-1) := Int.mul_le_mul_of_nonneg_left (by omega) (by omega)
      omega
    · exact c
  have q1 : q ≤ 4294967295 := by
    rcases ltge 4294967295 q with c | c
    · have : Y * 4294967296 ≤ Y * q := Int.mul_le_mul_of_nonneg_left (by omega) (by omega)
      omega
    · exact c
  refine ⟨?_, ?_, q0, q1⟩
  · rcases ltge g q with c | c
    · have e1 : y1 * (g + 1) ≤ y1 * q := Int.mul_le_mul_of_nonneg_left (by omega) (by omega)
      have e2 : 0 ≤ y0 * q := Int.mul_nonneg h00 q0
      have e3 : Y * q = 4294967296 * (y1 * q) + y0 * q := by rw [hY]; grind
      rw [Int.mul_add, Int.mul_one] at e1
      omega
    · exact c
  · rcases ltge 4294967297 g with c | c
    · have e1 : y1 * 4294967298 ≤ y1 * g := Int.mul_le_mul_of_nonneg_left (by omega) (by omega)
      omega
    · exact c

/-- the guess is right if it asks for no more than there is -/
theorem right {Y N q g : Int} (hy : 0 < Y) (hq : q = N / Y) (h : q ≤ g) (h1 : g * Y ≤ N) : g = q := by
  have b := Int.mul_ediv_add_emod N Y
  have b1 := Int.emod_lt_of_pos N hy
  rw [← hq] at b
  rcases ltge q g with c | c
  · have e1 : Y * (q + 1) ≤ Y * g := Int.mul_le_mul_of_nonneg_left (by omega) (by omega)
    rw [Int.mul_add, Int.mul_one] at e1
    rw [Int.mul_comm] at h1
    omega
  · omega

theorem wrong {Y N q g : Int} (hy : 0 < Y) (hq : q = N / Y) (h1 : N < g * Y) : q < g := by
  have b := Int.mul_ediv_add_emod N Y
  have b0 := Int.emod_nonneg N (show Y ≠ 0 by omega)
  rw [← hq] at b
  rcases ltge q g with c | c
  · exact c
  · have e1 : Y * g ≤ Y * q := Int.mul_le_mul_of_nonneg_left (by omega) (by omega)
    rw [Int.mul_comm] at h1
    omega

/-- what is asked of a guess, by its parts -/
theorem parts {Y y1 y0 U u g r : Int} (hY : Y = y1 * 4294967296 + y0) (hr : g * y1 + r = U) : (g * Y ≤ U * 4294967296 + u ↔ g * y0 ≤ 4294967296 * r + u) := by
  have : g * Y = 4294967296 * (g * y1) + g * y0 := by rw [hY]; grind
  omega

/-- two digits, and the rest moved back -/
theorem whole {X y S Q R : Int} (hy : 0 < y) (hS : 0 < S) (h : X * S = (y * S) * Q + R) (h0 : 0 ≤ R) (h1 : R < y * S) : X / y = Q ∧ X % y = R / S := by
  have e : R = S * (X - y * Q) := by grind
  have f : R / S = X - y * Q := by rw [e]; exact Int.mul_ediv_cancel_left _ (by omega)
  have g0 : 0 ≤ X - y * Q := by
    rcases ltge (X - y * Q) 0 with c | c
    · have : S * (X - y * Q) ≤ S * (-1) := Int.mul_le_mul_of_nonneg_left (by omega) (by omega)
      omega
    · exact c
  have g1 : X - y * Q < y := by
    rcases ltge (X - y * Q) y with c | c
    · exact c
    · have : S * y ≤ S * (X - y * Q) := Int.mul_le_mul_of_nonneg_left (by omega) (by omega)
      rw [Int.mul_comm S y] at this
      omega
  have := quot_uniq hy (show X = y * Q + (X - y * Q) by omega) g0 g1
  exact ⟨this.1, this.2.trans f.symm⟩
end Go.Proofs.Ytioicmialbimfaa.Knuth
end

section
namespace Go.Proofs.Ytioicmialbimfaa.XBits
set_option linter.unusedVariables false
set_option linter.unusedSimpArgs false
open Go.RowKit Go.Proofs.Ytioicmialbimfaa.S Go.Proofs.Ytioicmialbimfaa.XNum Go.Proofs.Ytioicmialbimfaa.Knuth Go.Proofs.YtioicmialbimfaaW.PrintWords

theorem wu (n : Int) : IntKind.u64.wrap n = n % 18446744073709551616 := IntKind.wrap_u64 n
theorem wu_id {n : Int} (h0 : 0 ≤ n) (h1 : n < 18446744073709551616) : IntKind.u64.wrap n = n := by rw [wu]; omega
theorem and32 {x : Int} (h0 : 0 ≤ x) (h1 : x < 18446744073709551616) : Go.bits .and .u64 x 4294967295 = x % 4294967296 := bits_mask .u64 64 (by decide) wraps_u64 32 (by decide) x h0 h1

theorem mul64 {x y : Int} (hx : 0 ≤ x) (hx1 : x < 18446744073709551616) (hy : 0 ≤ y) (hy1 : y < 18446744073709551616) :
    math_bits_Mul64.f x y = some (x * y / 18446744073709551616, x * y % 18446744073709551616) := by
  unfold math_bits_Mul64.f
  rw [and32 hx hx1, and32 hy hy1]
  simp only [wu]
  rw [and32 (by omega) (by omega)]
  obtain ⟨x, rfl⟩ := Int.eq_ofNat_of_zero_le hx
  obtain ⟨y, rfl⟩ := Int.eq_ofNat_of_zero_le hy
  obtain ⟨a, b, c, d⟩ := Go.Lib.mul64_hi x y (by omega) (by omega)
  have d' : ((x * y / 18446744073709551616 : Nat) : Int) = (x : Int) * y / 18446744073709551616 := by rw [Int.natCast_ediv, Int.natCast_mul]; rfl
  rw [← d', ← d]
  have e1 : ((x : Int) / 4294967296) * ((y : Int) / 4294967296) = ((x / 4294967296 * (y / 4294967296) : Nat) : Int) := by rw [Int.natCast_mul, Int.natCast_ediv, Int.natCast_ediv]; rfl
  have e2 : ((x : Int) / 4294967296) * ((y : Int) % 4294967296) = ((x / 4294967296 * (y % 4294967296) : Nat) : Int) := by rw [Int.natCast_mul, Int.natCast_ediv, Int.natCast_emod]; rfl
  have e3 : ((x : Int) % 4294967296) * ((y : Int) / 4294967296) = ((x % 4294967296 * (y / 4294967296) : Nat) : Int) := by rw [Int.natCast_mul, Int.natCast_emod, Int.natCast_ediv]; rfl
  have e4 : ((x : Int) % 4294967296) * ((y : Int) % 4294967296) = ((x % 4294967296 * (y % 4294967296) : Nat) : Int) := by rw [Int.natCast_mul, Int.natCast_emod, Int.natCast_emod]; rfl
  rw [e1, e2, e3, e4]
  have l1 := Go.Lib.half_mul_le (a := x / 4294967296) (b := y / 4294967296) (by omega) (by omega)
  have l2 := Go.Lib.half_mul_le (a := x / 4294967296) (b := y % 4294967296) (by omega) (by omega)
  have l3 := Go.Lib.half_mul_le (a := x % 4294967296) (b := y / 4294967296) (by omega) (by omega)
  have l4 := Go.Lib.half_mul_le (a := x % 4294967296) (b := y % 4294967296) (by omega) (by omega)
  have l5 : x * y / 18446744073709551616 < 18446744073709551616 := by
    have : x * y < 18446744073709551616 * 18446744073709551616 := Nat.mul_lt_mul_of_lt_of_lt (by omega) (by omega)
    omega
  generalize x / 4294967296 * (y / 4294967296) = p1 at *
  generalize x / 4294967296 * (y % 4294967296) = p2 at *
  generalize x % 4294967296 * (y / 4294967296) = p3 at *
  generalize x % 4294967296 * (y % 4294967296) = p4 at *
  generalize x * y / 18446744073709551616 = p5 at *
  congr 2
  omega

/-- How many bits a byte has. -/
def len8 (i : Int) : Int := if i < 1 then 0 else if i < 2 then 1 else if i < 4 then 2 else if i < 8 then 3 else if i < 16 then 4 else if i < 32 then 5 else if i < 64 then 6 else if i < 128 then 7 else 8
theorem tab_fin : ∀ i : Fin 256, bt (⟨#[0, 1, 2, 2, 3, 3, 3, 3, 4, 4, 4, 4, 4, 4, 4, 4, 5, 5, 5, 5, 5, 5, 5, 5, 5, 5, 5, 5, 5, 5, 5, 5, 6, 6, 6, 6, 6, 6, 6, 6, 6, 6, 6, 6, 6, 6, 6, 6, 6, 6, 6, 6, 6, 6, 6, 6, 6, 6, 6, 6, 6, 6, 6, 6, 7, 7, 7, 7, 7, 7, 7, 7, 7, 7, 7, 7, 7, 7, 7, 7, 7, 7, 7, 7, 7, 7, 7, 7, 7, 7, 7, 7, 7, 7, 7, 7, 7, 7, 7, 7, 7, 7, 7, 7, 7, 7, 7, 7, 7, 7, 7, 7, 7, 7, 7, 7, 7, 7, 7, 7, 7, 7, 7, 7, 7, 7, 7, 7, 8, 8, 8, 8, 8, 8, 8, 8, 8, 8, 8, 8, 8, 8, 8, 8, 8, 8, 8, 8, 8, 8, 8, 8, 8, 8, 8, 8, 8, 8, 8, 8, 8, 8, 8, 8, 8, 8, 8, 8, 8, 8, 8, 8, 8, 8, 8, 8, 8, 8, 8, 8, 8, 8, 8, 8, 8, 8, 8, 8, 8, 8, 8, 8, 8, 8, 8, 8, 8, 8, 8, 8, 8, 8, 8, 8, 8, 8, 8, 8, 8, 8, 8, 8, 8, 8, 8, 8, 8, 8, 8, 8, 8, 8, 8, 8, 8, 8, 8, 8, 8, 8, 8, 8, 8, 8, 8, 8, 8, 8, 8, 8, 8, 8, 8, 8, 8, 8, 8, 8, 8, 8, 8, 8, 8, 8, 8, 8]⟩ : ByteArray) (i.val : Int) = len8 (i.val : Int) := by decide +kernel
theorem tab {i : Int} (h0 : 0 ≤ i) (h1 : i < 256) : bt (⟨#[0, 1, 2, 2, 3, 3, 3, 3, 4, 4, 4, 4, 4, 4, 4, 4, 5, 5, 5, 5, 5, 5, 5, 5, 5, 5, 5, 5, 5, 5, 5, 5, 6, 6, 6, 6, 6, 6, 6, 6, 6, 6, 6, 6, 6, 6, 6, 6, 6, 6, 6, 6, 6, 6, 6, 6, 6, 6, 6, 6, 6, 6, 6, 6, 7, 7, 7, 7, 7, 7, 7, 7, 7, 7, 7, 7, 7, 7, 7, 7, 7, 7, 7, 7, 7, 7, 7, 7, 7, 7, 7, 7, 7, 7, 7, 7, 7, 7, 7, 7, 7, 7, 7, 7, 7, 7, 7, 7, 7, 7, 7, 7, 7, 7, 7, 7, 7, 7, 7, 7, 7, 7, 7, 7, 7, 7, 7, 7, 8, 8, 8, 8, 8, 8, 8, 8, 8, 8, 8, 8, 8, 8, 8, 8, 8, 8, 8, 8, 8, 8, 8, 8, 8, 8, 8, 8, 8, 8, 8, 8, 8, 8, 8, 8, 8, 8, 8, 8, 8, 8, 8, 8, 8, 8, 8, 8, 8, 8, 8, 8, 8, 8, 8, 8, 8, 8, 8, 8, 8, 8, 8, 8, 8, 8, 8, 8, 8, 8, 8, 8, 8, 8, 8, 8, 8, 8, 8, 8, 8, 8, 8, 8, 8, 8, 8, 8, 8, 8, 8, 8, 8, 8, 8, 8, 8, 8, 8, 8, 8, 8, 8, 8, 8, 8, 8, 8, 8, 8, 8, 8, 8, 8, 8, 8, 8, 8, 8, 8, 8, 8, 8, 8, 8, 8, 8, 8]⟩ : ByteArray) i = len8 i := by
  obtain ⟨n, rfl⟩ := Int.eq_ofNat_of_zero_le h0
  exact tab_fin ⟨n, by omega⟩
/-- It has n bits. -/
def Bits (n : Nat) (y : Int) : Prop := 1 ≤ n ∧ (2 : Int) ^ (n - 1) ≤ y ∧ y < 2 ^ n
theorem len8_bits {i : Int} (h0 : 1 ≤ i) (h1 : i < 256) : ∃ m : Nat, len8 i = m ∧ m ≤ 8 ∧ Bits m i := by
  unfold len8 Bits
  rw [if_neg (by omega)]
  by_cases c1 : i < 2
  · rw [if_pos c1]; exact ⟨1, rfl, by omega, by omega, by simp; omega, by simp; omega⟩
  rw [if_neg c1]
  by_cases c2 : i < 4
  · rw [if_pos c2]; exact ⟨2, rfl, by omega, by omega, by simp; omega, by simp; omega⟩
  rw [if_neg c2]
  by_cases c3 : i < 8
  · rw [if_pos c3]; exact ⟨3, rfl, by omega, by omega, by simp; omega, by simp; omega⟩
  rw [if_neg c3]
  by_cases c4 : i < 16
  · rw [if_pos c4]; exact ⟨4, rfl, by omega, by omega, by simp; omega, by simp; omega⟩
  rw [if_neg c4]
  by_cases c5 : i < 32
  · rw [if_pos c5]; exact ⟨5, rfl, by omega, by omega, by simp; omega, by simp; omega⟩
  rw [if_neg c5]
  by_cases c6 : i < 64
  · rw [if_pos c6]; exact ⟨6, rfl, by omega, by omega, by simp; omega, by simp; omega⟩
  rw [if_neg c6]
  by_cases c7 : i < 128
  · rw [if_pos c7]; exact ⟨7, rfl, by omega, by omega, by simp; omega, by simp; omega⟩
  rw [if_neg c7]
  exact ⟨8, rfl, by omega, by omega, by simp; omega, by simp; omega⟩
theorem bits_up {t m : Nat} {y : Int} (h : Bits m (y / 2 ^ t)) : Bits (m + t) y := by
  obtain ⟨a, b, c⟩ := h
  have hp : (0 : Int) < 2 ^ t := Int.pow_pos (by decide)
  refine ⟨by omega, ?_, ?_⟩
  · have := (Int.le_ediv_iff_mul_le hp).1 b
    rw [show m + t - 1 = m - 1 + t by omega, Int.pow_add]
    exact this
  · have := (Int.ediv_lt_iff_lt_mul hp).1 c
    rw [Int.pow_add]
    exact this

theorem len64 {y : Int} (h0 : 1 ≤ y) (h1 : y < 18446744073709551616) (k : Nat) : ∃ n : Nat, math_bits_Len64.f (k + 1) y = some (n : Int) ∧ n ≤ 64 ∧ Bits n y := by
  have key : ∀ (z x2 : Int) (t : Nat), 1 ≤ z → z < 4294967296 → x2 = t → t ≤ 32 → ∃ n : Nat, math_bits_Len64.j0 (k + 1) z x2 = some (n + t : Int) ∧ n ≤ 32 ∧ Bits n z := by
    intro z x2 t z0 z1 hx ht
    subst hx
    rw [math_bits_Len64.j0]
    by_cases c1 : z ≥ 65536
    · rw [if_pos c1]
      by_cases c2 : z / 65536 ≥ 256
      · rw [if_pos c2, if_pos (by omega), if_pos (by omega), tab (by omega) (by omega)]
        obtain ⟨m, e, hm, hb⟩ := len8_bits (i := z / 65536 / 256 % 256) (by omega) (by omega)
        rw [e]
        refine ⟨m + 24, ?_, by omega, ?_⟩
        · congr 1
          rw [w64 (n := (t : Int) + 16) (by omega) (by omega), w64 (n := (t : Int) + 16 + 8) (by omega) (by omega), w64 (n := (m : Int)) (by omega) (by omega), w64 (by omega) (by omega)]
          omega
        · refine bits_up ?_
          have : z / 2 ^ 24 = z / 65536 / 256 % 256 := by simp; omega
          rw [this]
          exact hb
      · rw [if_neg c2, if_pos (by omega), if_pos (by omega), tab (by omega) (by omega)]
        obtain ⟨m, e, hm, hb⟩ := len8_bits (i := z / 65536 % 256) (by omega) (by omega)
        rw [e]
        refine ⟨m + 16, ?_, by omega, ?_⟩
        · congr 1
          rw [w64 (n := (t : Int) + 16) (by omega) (by omega), w64 (n := (m : Int)) (by omega) (by omega), w64 (by omega) (by omega)]
          omega
        · refine bits_up ?_
          have : z / 2 ^ 16 = z / 65536 % 256 := by simp; omega
          rw [this]
          exact hb
    · rw [if_neg c1]
      by_cases c2 : z ≥ 256
      · rw [if_pos c2, if_pos (by omega), if_pos (by omega), tab (by omega) (by omega)]
        obtain ⟨m, e, hm, hb⟩ := len8_bits (i := z / 256 % 256) (by omega) (by omega)
        rw [e]
        refine ⟨m + 8, ?_, by omega, ?_⟩
        · congr 1
          rw [w64 (n := (t : Int) + 8) (by omega) (by omega), w64 (n := (m : Int)) (by omega) (by omega), w64 (by omega) (by omega)]
          omega
        · refine bits_up ?_
          have : z / 2 ^ 8 = z / 256 % 256 := by simp; omega
          rw [this]
          exact hb
      · rw [if_neg c2, if_pos (by omega), if_pos (by omega), tab (by omega) (by omega)]
        obtain ⟨m, e, hm, hb⟩ := len8_bits (i := z % 256) (by omega) (by omega)
        rw [e]
        refine ⟨m, ?_, by omega, ?_⟩
        · congr 1
          rw [w64 (n := (m : Int)) (by omega) (by omega), w64 (by omega) (by omega)]
          omega
        · have : z % 256 = z := by omega
          rw [this] at hb
          exact hb
  unfold math_bits_Len64.f
  by_cases c : y ≥ 4294967296
  · rw [if_pos c]
    obtain ⟨n, e, hn, hb⟩ := key (y / 4294967296) 32 32 (by omega) (by omega) rfl (by omega)
    refine ⟨n + 32, by rw [e]; simp, by omega, bits_up ?_⟩
    have : (2 : Int) ^ 32 = 4294967296 := by decide
    rw [this]
    exact hb
  · rw [if_neg c]
    obtain ⟨n, e, hn, hb⟩ := key y 0 0 (by omega) (by omega) rfl (by omega)
    exact ⟨n, by rw [e]; simp, by omega, hb⟩

/-- one digit, as the first loop finds it -/
theorem digit0 {B : Nat} {res : Option (Int × Int)} {x2 x8 x9 x10 x11 x13 x14 q : Int} (hY : x2 = x9 * 4294967296 + x10) (h1 : 2147483648 ≤ x9) (hY1 : x2 < 18446744073709551616)
    (h00 : 0 ≤ x10) (h01 : x10 < 4294967296) (hU0 : 0 ≤ x11) (hU : x11 < x2) (hu0 : 0 ≤ x13) (hu : x13 < 4294967296) (hq : q = (x11 * 4294967296 + x13) / x2)
    (hres : ∀ k, B ≤ k → math_bits_Div64.j2 k x2 x8 x9 x10 x11 x13 x14 q = res) :
    ∀ (d : Nat) (g r : Int), q ≤ g → g ≤ 4294967297 → g - q ≤ d → g * x9 + r = x11 → 0 ≤ r → (r < 4294967296) → ∀ k, B + 2 * d + 2 ≤ k → math_bits_Div64.l0 k x2 x8 x9 x10 x11 x13 x14 g r = res := by
  obtain ⟨_, _, q0, q1⟩ := guess hY h1 h00 h01 hU0 hU hu0 hu
  rw [← hq] at q0 q1
  intro d
  induction d with
  | zero =>
    intro g r hg _ hd hr r0 r1 k hk
    obtain ⟨k, rfl⟩ : ∃ m, k = m + 2 := ⟨k - 2, by omega⟩
    have e : g = q := by omega
    subst e
    have hle : g * x10 ≤ 4294967296 * r + x13 := by
      rw [← parts hY hr]
      have b := Int.mul_ediv_add_emod (x11 * 4294967296 + x13) x2
      have b0 := Int.emod_nonneg (x11 * 4294967296 + x13) (show x2 ≠ 0 by omega)
      rw [← hq, Int.mul_comm] at b
      omega
    have gy0 : 0 ≤ g * x10 := Int.mul_nonneg q0 h00
    simp only [math_bits_Div64.l0]
    rw [if_neg (by omega), wu_id (n := g * x10) gy0 (by omega), wu_id (n := 4294967296 * r) (by omega) (by omega), wu_id (n := 4294967296 * r + x13) (by omega) (by omega), decide_eq_false (by omega)]
    simp only [math_bits_Div64.j1, Bool.false_eq_true, if_false]
    exact hres k (by omega)
  | succ d ih =>
    intro g r hg hg1 hd hr r0 r1 k hk
    obtain ⟨k, rfl⟩ : ∃ m, k = m + 2 := ⟨k - 2, by omega⟩
    have step : q < g → math_bits_Div64.j1 (k + 1) x2 x8 x9 x10 x11 x13 x14 g r true = res := by
      intro hlt
      simp only [math_bits_Div64.j1, if_true]
      rw [wu_id (n := r + x9) (by omega) (by omega), wu_id (n := g - 1) (by omega) (by omega)]
      by_cases c : r + x9 ≥ 4294967296
      · rw [if_pos c]
        have e : g - 1 = q := by
          refine right (show 0 < x2 by omega) hq (by omega) ?_
          rw [parts (r := r + x9) hY (by rw [Int.sub_mul]; omega)]
          have m : (g - 1) * x10 ≤ 4294967296 * x10 := Int.mul_le_mul_of_nonneg_right (by omega) h00
          omega
        rw [e]
        exact hres k (by omega)
      · rw [if_neg c]
        exact ih (g - 1) (r + x9) (by omega) (by omega) (by omega) (by rw [Int.sub_mul]; omega) (by omega) (by omega) k (by omega)
    simp only [math_bits_Div64.l0]
    by_cases c : g ≥ 4294967296
    · rw [if_pos c]
      exact step (by omega)
    · rw [if_neg c]
      have gy0 : 0 ≤ g * x10 := Int.mul_nonneg (by omega) h00
      have gy1 : g * x10 ≤ 4294967296 * x10 := Int.mul_le_mul_of_nonneg_right (by omega) h00
      rw [wu_id (n := g * x10) gy0 (by omega), wu_id (n := 4294967296 * r) (by omega) (by omega), wu_id (n := 4294967296 * r + x13) (by omega) (by omega)]
      by_cases c2 : g * x10 > 4294967296 * r + x13
      · rw [decide_eq_true c2]
        refine step (wrong (Y := x2) (N := x11 * 4294967296 + x13) (by omega) hq ?_)
        have := (parts (u := x13) hY hr)
        omega
      · rw [decide_eq_false c2]
        simp only [math_bits_Div64.j1, Bool.false_eq_true, if_false]
        have e : g = q := right (Y := x2) (by omega) hq hg ((parts hY hr).2 (by omega))
        rw [e]
        exact hres k (by omega)

/-- the second digit, and what comes behind it -/
theorem digit1 {x2 x8 x9 x10 x14 x15 x17 q : Int} (hY : x2 = x9 * 4294967296 + x10) (h1 : 2147483648 ≤ x9) (hY1 : x2 < 18446744073709551616)
    (h00 : 0 ≤ x10) (h01 : x10 < 4294967296) (hU0 : 0 ≤ x17) (hU : x17 < x2) (hu0 : 0 ≤ x14) (hu : x14 < 4294967296) (hq : q = (x17 * 4294967296 + x14) / x2) (h8 : 0 ≤ x8) (hp0 : 0 ≤ x15) (hp1 : x15 < 4294967296) :
    ∀ (d : Nat) (g r : Int), q ≤ g → g ≤ 4294967297 → g - q ≤ d → g * x9 + r = x17 → 0 ≤ r → (r < 4294967296) → ∀ k, 2 * d + 2 ≤ k → math_bits_Div64.l1 k x2 x8 x9 x10 x14 x15 r x17 g = some (x15 * 4294967296 + q, shr .u64 ((x17 * 4294967296 + x14) % x2) x8) := by
  obtain ⟨_, _, q0, q1⟩ := guess hY h1 h00 h01 hU0 hU hu0 hu
  rw [← hq] at q0 q1
  have b := Int.mul_ediv_add_emod (x17 * 4294967296 + x14) x2
  have b0 := Int.emod_nonneg (x17 * 4294967296 + x14) (show x2 ≠ 0 by omega)
  have b1 := Int.emod_lt_of_pos (x17 * 4294967296 + x14) (show 0 < x2 by omega)
  rw [← hq, Int.mul_comm] at b
  have fin : some (IntKind.u64.wrap ((IntKind.u64.wrap (x15 * 4294967296)) + q), shr .u64 (IntKind.u64.wrap ((IntKind.u64.wrap ((IntKind.u64.wrap (x17 * 4294967296)) + x14)) - (IntKind.u64.wrap (q * x2)))) x8) = some (x15 * 4294967296 + q, shr .u64 ((x17 * 4294967296 + x14) % x2) x8) := by
    rw [wu_id (n := x15 * 4294967296) (by omega) (by omega), wu_id (n := x15 * 4294967296 + q) (by omega) (by omega)]
    congr 3
    simp only [wu]
    generalize q * x2 = m at *
    generalize (x17 * 4294967296 + x14) % x2 = t at *
    omega
  intro d
  induction d with
  | zero =>
    intro g r hg _ hd hr r0 r1 k hk
    obtain ⟨k, rfl⟩ : ∃ m, k = m + 2 := ⟨k - 2, by omega⟩
    have e : g = q := by omega
    subst e
    have hle : g * x10 ≤ 4294967296 * r + x14 := by
      rw [← parts hY hr]
      omega
    have gy0 : 0 ≤ g * x10 := Int.mul_nonneg q0 h00
    simp only [math_bits_Div64.l1]
    rw [if_neg (by omega), wu_id (n := g * x10) gy0 (by omega), wu_id (n := 4294967296 * r) (by omega) (by omega), wu_id (n := 4294967296 * r + x14) (by omega) (by omega), decide_eq_false (by omega)]
    simp only [math_bits_Div64.j4, Bool.false_eq_true, if_false]
    rw [if_pos h8]
    exact fin
  | succ d ih =>
    intro g r hg hg1 hd hr r0 r1 k hk
    obtain ⟨k, rfl⟩ : ∃ m, k = m + 2 := ⟨k - 2, by omega⟩
    have step : q < g → math_bits_Div64.j4 (k + 1) x2 x8 x9 x10 x14 x15 r x17 g true = some (x15 * 4294967296 + q, shr .u64 ((x17 * 4294967296 + x14) % x2) x8) := by
      intro hlt
      simp only [math_bits_Div64.j4, if_true]
      rw [wu_id (n := r + x9) (by omega) (by omega), wu_id (n := g - 1) (by omega) (by omega)]
      by_cases c : r + x9 ≥ 4294967296
      · rw [if_pos c, if_pos h8]
        have e : g - 1 = q := by
          refine right (show 0 < x2 by omega) hq (by omega) ?_
          rw [parts (r := r + x9) hY (by rw [Int.sub_mul]; omega)]
          have m : (g - 1) * x10 ≤ 4294967296 * x10 := Int.mul_le_mul_of_nonneg_right (by omega) h00
          omega
        rw [e]
        exact fin
      · rw [if_neg c]
        exact ih (g - 1) (r + x9) (by omega) (by omega) (by omega) (by rw [Int.sub_mul]; omega) (by omega) (by omega) k (by omega)
    simp only [math_bits_Div64.l1]
    by_cases c : g ≥ 4294967296
    · rw [if_pos c]
      exact step (by omega)
    · rw [if_neg c]
      have gy0 : 0 ≤ g * x10 := Int.mul_nonneg (by omega) h00
      have gy1 : g * x10 ≤ 4294967296 * x10 := Int.mul_le_mul_of_nonneg_right (by omega) h00
      rw [wu_id (n := g * x10) gy0 (by omega), wu_id (n := 4294967296 * r) (by omega) (by omega), wu_id (n := 4294967296 * r + x14) (by omega) (by omega)]
      by_cases c2 : g * x10 > 4294967296 * r + x14
      · rw [decide_eq_true c2]
        refine step (wrong (Y := x2) (N := x17 * 4294967296 + x14) (by omega) hq ?_)
        have := (parts (u := x14) hY hr)
        omega
      · rw [decide_eq_false c2]
        simp only [math_bits_Div64.j4, Bool.false_eq_true, if_false]
        have e : g = q := right (Y := x2) (by omega) hq hg ((parts hY hr).2 (by omega))
        rw [e, if_pos h8]
        exact fin

theorem div64 {hi lo y : Int} (h0 : 0 ≤ hi) (h1 : hi < y) (l0 : 0 ≤ lo) (l1 : lo < 18446744073709551616) (y1 : y < 18446744073709551616) {k : Nat} (hk : 24 ≤ k) :
    math_bits_Div64.f k hi lo y = some ((hi * 18446744073709551616 + lo) / y, (hi * 18446744073709551616 + lo) % y) := by
  obtain ⟨k, rfl⟩ : ∃ m, k = m + 24 := ⟨k - 24, by omega⟩
  unfold math_bits_Div64.f
  rw [if_neg (by omega), if_neg (by omega)]
  by_cases c : hi = 0
  · rw [if_pos c]
    subst c
    rw [td_nn l0, tm_nn l0, Int.zero_mul, Int.zero_add]
    have : lo / y ≤ lo := Int.ediv_le_self _ l0
    have : 0 ≤ lo / y := Int.ediv_nonneg l0 (by omega)
    rw [wu_id (by omega) (by omega)]
  rw [if_neg c]
  obtain ⟨n, e, hn, b0, b1, b2⟩ := len64 (y := y) (by omega) y1 (k + 23)
  unfold math_bits_LeadingZeros64.f
  rw [e]
  simp only [Option.bind_some]
  rw [w64 (by omega) (by omega), wu_id (n := 64 - (n : Int)) (by omega) (by omega), wu_id (n := 64 - (64 - (n : Int))) (by omega) (by omega)]
  rw [if_pos (by omega), if_pos (by omega)]
  unfold shl
  unfold shr
  have i1 : min (64 - (n : Int)).toNat IntKind.u64.bits = 64 - n := by show min (64 - (n : Int)).toNat 64 = 64 - n; omega
  have i2 : min (64 - (64 - (n : Int))).toNat IntKind.u64.bits = n := by show min (64 - (64 - (n : Int))).toNat 64 = n; omega
  rw [i1, i2]
  obtain ⟨S, hSd⟩ : ∃ S : Int, S = 2 ^ (64 - n) := ⟨_, rfl⟩
  rw [← hSd]
  have hS : 0 < S := by rw [hSd]; exact Int.pow_pos (by decide)
  have hP : (0 : Int) < 2 ^ n := Int.pow_pos (by decide)
  have hSP : (2 : Int) ^ n * S = 18446744073709551616 := by
    rw [hSd, ← Int.pow_add, show n + (64 - n) = 64 by omega]; decide
  have hSP2 : (2 : Int) ^ (n - 1) * S = 9223372036854775808 := by
    rw [hSd, ← Int.pow_add, show n - 1 + (64 - n) = 63 by omega]; decide
  generalize (2 : Int) ^ n = P at *
  generalize (2 : Int) ^ (n - 1) = P' at *
  have yS1 : y * S < 18446744073709551616 := by
    have : y * S < P * S := Int.mul_lt_mul_of_pos_right b2 hS
    omega
  have yS0 : 9223372036854775808 ≤ y * S := by
    have : P' * S ≤ y * S := Int.mul_le_mul_of_nonneg_right b1 (by omega)
    omega
  have hS1 : hi * S + S ≤ y * S := by
    have : (hi + 1) * S ≤ y * S := Int.mul_le_mul_of_nonneg_right (by omega) (by omega)
    rw [Int.add_mul, Int.one_mul] at this
    omega
  have hS0 : 0 ≤ hi * S := Int.mul_nonneg h0 (by omega)
  have lS0 : 0 ≤ lo * S := Int.mul_nonneg l0 (by omega)
  have lP0 : 0 ≤ lo / P := Int.ediv_nonneg l0 (by omega)
  have lP : lo * S / 18446744073709551616 = lo / P := by
    rw [← hSP]
    exact Int.mul_ediv_mul_of_pos_left _ _ hS
  have lP1 : lo / P < S := by
    rw [Int.ediv_lt_iff_lt_mul hP, Int.mul_comm, hSP]
    exact l1
  rw [wu_id (n := y * S) (by omega) yS1, wu_id (n := hi * S) hS0 (by omega), wu (lo * S)]
  have or1 : Go.bits .or .u64 (hi * S) (lo / P) = hi * S + lo / P := by
    exact bits_join .u64 64 (by decide) wraps_u64 (64 - n) _ _ hS0 (by rw [← hSd]; exact Int.mul_emod_left _ _) (by simp; omega) lP0 (by rw [← hSd]; exact lP1) (by simp; omega)
  rw [or1, and32 (by omega) yS1, and32 (by omega) (by omega)]
  have hX : (hi * 18446744073709551616 + lo) * S = ((hi * S + lo / P) * 18446744073709551616) + lo * S % 18446744073709551616 := by
    rw [← lP]
    have : (hi * 18446744073709551616 + lo) * S = hi * S * 18446744073709551616 + lo * S := by grind
    omega
  generalize hU : hi * S + lo / P = U at *
  generalize hV : lo * S % 18446744073709551616 = V at *
  generalize hY : y * S = Y at *
  have V0 : 0 ≤ V := by omega
  have V1 : V < 18446744073709551616 := by omega
  have Us : U < Y := by omega
  rw [if_neg (by omega), td_nn (by omega)]
  have sp : Y = Y / 4294967296 * 4294967296 + Y % 4294967296 := by omega
  obtain ⟨g1, g2, g3, g4⟩ := guess (u := V / 4294967296) sp (by omega) (by omega) (by omega) (by omega) Us (by omega) (by omega)
  have ga := Int.mul_ediv_add_emod U (Y / 4294967296)
  have ga0 := Int.emod_nonneg U (show Y / 4294967296 ≠ 0 by omega)
  have ga1 := Int.emod_lt_of_pos U (show 0 < Y / 4294967296 by omega)
  rw [Int.mul_comm] at ga
  have gn : 0 ≤ U / (Y / 4294967296) * (Y / 4294967296) := Int.mul_nonneg (by omega) (by omega)
  rw [wu_id (n := U / (Y / 4294967296)) (by omega) (by omega), wu_id (n := U / (Y / 4294967296) * (Y / 4294967296)) (by omega) (by omega), wu_id (n := U - U / (Y / 4294967296) * (Y / 4294967296)) (by omega) (by omega)]
  generalize hg : U / (Y / 4294967296) = g at *
  -- the first digit
  have m1 := Int.mul_ediv_add_emod (U * 4294967296 + V / 4294967296) Y
  have m10 := Int.emod_nonneg (U * 4294967296 + V / 4294967296) (show Y ≠ 0 by omega)
  have m11 := Int.emod_lt_of_pos (U * 4294967296 + V / 4294967296) (show 0 < Y by omega)
  generalize hq1 : (U * 4294967296 + V / 4294967296) / Y = q1 at *
  generalize hr1 : (U * 4294967296 + V / 4294967296) % Y = W at *
  refine digit0 (B := 14) (q := q1) (res := some ((hi * 18446744073709551616 + lo) / y, (hi * 18446744073709551616 + lo) % y)) sp (by omega) (by omega) (by omega) (by omega) (by omega) Us (by omega) (by omega) hq1.symm ?_ 4 g (U - g * (Y / 4294967296)) g1 g2 ?_ (by omega) (by omega) (by omega) (k + 24) (by omega)
  · intro k' hk'
    obtain ⟨k', rfl⟩ : ∃ m, k' = m + 14 := ⟨k' - 14, by omega⟩
    simp only [math_bits_Div64.j2]
    rw [if_neg (by omega)]
    have w : IntKind.u64.wrap ((IntKind.u64.wrap ((IntKind.u64.wrap (U * 4294967296)) + V / 4294967296)) - (IntKind.u64.wrap (q1 * Y))) = W := by
      simp only [wu]
      rw [Int.mul_comm q1 Y]
      generalize Y * q1 = m at *
      omega
    rw [w, td_nn (by omega)]
    obtain ⟨p1, p2, p3, p4⟩ := guess (u := V % 4294967296) sp (by omega) (by omega) (by omega) (show 0 ≤ W by omega) (by omega) (by omega) (by omega)
    have pa := Int.mul_ediv_add_emod W (Y / 4294967296)
    have pa0 := Int.emod_nonneg W (show Y / 4294967296 ≠ 0 by omega)
    have pa1 := Int.emod_lt_of_pos W (show 0 < Y / 4294967296 by omega)
    rw [Int.mul_comm] at pa
    have pn : 0 ≤ W / (Y / 4294967296) * (Y / 4294967296) := Int.mul_nonneg (by omega) (by omega)
    rw [wu_id (n := W / (Y / 4294967296)) (by omega) (by omega), wu_id (n := W / (Y / 4294967296) * (Y / 4294967296)) (by omega) (by omega), wu_id (n := W - W / (Y / 4294967296) * (Y / 4294967296)) (by omega) (by omega)]
    generalize hg' : W / (Y / 4294967296) = g' at *
    have m2 := Int.mul_ediv_add_emod (W * 4294967296 + V % 4294967296) Y
    have m20 := Int.emod_nonneg (W * 4294967296 + V % 4294967296) (show Y ≠ 0 by omega)
    have m21 := Int.emod_lt_of_pos (W * 4294967296 + V % 4294967296) (show 0 < Y by omega)
    generalize hq2 : (W * 4294967296 + V % 4294967296) / Y = q2 at *
    have d2 : g' - q2 ≤ 4 := by
      rcases ltge 4 (g' - q2) with c5 | c5
      · have e1 : Y * q2 + Y * 5 ≤ Y * g' := by
          have : Y * (q2 + 5) ≤ Y * g' := Int.mul_le_mul_of_nonneg_left (by omega) (by omega)
          rw [Int.mul_add] at this
          exact this
        have e2 : Y * g' = g' * (Y / 4294967296) * 4294967296 + g' * (Y % 4294967296) := by
          conv => lhs; rw [sp]
          grind
        have e3 : g' * (Y % 4294967296) ≤ 4294967297 * (Y % 4294967296) := Int.mul_le_mul_of_nonneg_right p2 (by omega)
        omega
      · exact c5
    rw [digit1 (q := q2) sp (by omega) (by omega) (by omega) (by omega) (by omega) (by omega) (by omega) (by omega) hq2.symm (by omega) (by omega) (by omega) 4 g' (W - g' * (Y / 4294967296)) p1 p2 d2 (by omega) (by omega) (by omega) (k' + 13) (by omega)]
    have fin := whole (X := hi * 18446744073709551616 + lo) (y := y) (S := S) (Q := q1 * 4294967296 + q2) (R := (W * 4294967296 + V % 4294967296) % Y) (by omega) hS (by
      rw [hX, hY, Int.mul_add]
      have : Y * (q1 * 4294967296) = Y * q1 * 4294967296 := by rw [Int.mul_assoc]
      rw [this]
      generalize Y * q1 = a at *
      generalize Y * q2 = b at *
      omega) m20 (by rw [hY]; exact m21)
    rw [fin.1, fin.2]
    unfold shr
    rw [i1]
    rw [hSd]
  · rcases ltge 4 (g - q1) with c5 | c5
    · have e1 : Y * q1 + Y * 5 ≤ Y * g := by
        have : Y * (q1 + 5) ≤ Y * g := Int.mul_le_mul_of_nonneg_left (by omega) (by omega)
        rw [Int.mul_add] at this
        exact this
      have e2 : Y * g = g * (Y / 4294967296) * 4294967296 + g * (Y % 4294967296) := by
        conv => lhs; rw [sp]
        grind
      have e3 : g * (Y % 4294967296) ≤ 4294967297 * (Y % 4294967296) := Int.mul_le_mul_of_nonneg_right g2 (by omega)
      omega
    · omega
end Go.Proofs.Ytioicmialbimfaa.XBits
end

section
namespace Go.Proofs.Ytioicmialbimfaa.XWide
set_option linter.unusedVariables false
set_option linter.unusedSimpArgs false
open Go.RowKit Go.Proofs.Ytioicmialbimfaa.S Go.Proofs.Ytioicmialbimfaa.XNum Go.Proofs.Ytioicmialbimfaa.XBits Go.Proofs.Ytioicmialbimfaa.Rnd Go.Proofs.YtioicmialbimfaaW.PrintWords

abbrev I64 (n : Int) : Prop := -9223372036854775808 ≤ n ∧ n ≤ 9223372036854775807
abbrev U64 (n : Int) : Prop := 0 ≤ n ∧ n < 18446744073709551616

theorem and_ones {b : Int} (hb : I64 b) : Go.bits .and .i64 (-1) b = b := by
  show IntKind.i64.wrap (((BitVec.ofInt 64 (-1) &&& BitVec.ofInt 64 b).toNat : Nat) : Int) = b
  have e : BitVec.ofInt 64 (-1) = BitVec.allOnes 64 := by decide
  rw [e, BitVec.allOnes_and, BitVec.toNat_ofInt]
  simp only [IntKind.wrap, IntKind.bits, IntKind.signed, if_true]
  have := hb.1
  have := hb.2
  simp
  omega
theorem and_none (b : Int) : Go.bits .and .i64 0 b = 0 := by
  show IntKind.i64.wrap (((BitVec.ofInt 64 0 &&& BitVec.ofInt 64 b).toNat : Nat) : Int) = 0
  have e : BitVec.ofInt 64 0 = 0#64 := by decide
  rw [e, BitVec.zero_and]
  decide
theorem and1 {x : Int} (h0 : 0 ≤ x) (h1 : x < 18446744073709551616) : Go.bits .and .u64 x 1 = x % 2 := bits_mask .u64 64 (by decide) wraps_u64 1 (by decide) x h0 h1

theorem mul_bd {a b C D : Int} (ha : -C ≤ a) (ha' : a ≤ C) (hb : -D ≤ b) (hb' : b ≤ D) : -(C * D) ≤ a * b ∧ a * b ≤ C * D := by
  have e : (a * b).natAbs ≤ C.natAbs * D.natAbs := by
    rw [Int.natAbs_mul]
    exact Nat.mul_le_mul (by omega) (by omega)
  have f : C * D = ((C.natAbs * D.natAbs : Nat) : Int) := by
    rw [Int.natCast_mul, Int.natAbs_of_nonneg (by omega), Int.natAbs_of_nonneg (by omega)]
  rw [f]
  omega
theorem mul_i64 {a b : Int} (ha : I64 a) (hb : I64 b) : -85070591730234615865843651857942052864 ≤ a * b ∧ a * b ≤ 85070591730234615865843651857942052864 := by
  have := mul_bd (C := 9223372036854775808) (D := 9223372036854775808) (a := a) (b := b) (by have := ha.1; omega) (by have := ha.2; omega) (by have := hb.1; omega) (by have := hb.2; omega)
  omega

theorem mul {a b : Int} (ha : I64 a) (hb : I64 b) : wide_Mul.f a b = some (a * b / 18446744073709551616, a * b % 18446744073709551616) := by
  have hm := mul_i64 ha hb
  obtain ⟨a0, a1⟩ := ha
  obtain ⟨b0, b1⟩ := hb
  unfold wide_Mul.f
  rw [wu a, wu b, mul64 (by omega) (by omega) (by omega) (by omega)]
  simp only [Option.bind_some]
  by_cases ca : a < 0
  · rw [show a / 9223372036854775808 = -1 by omega, and_ones ⟨b0, b1⟩, show a % 18446744073709551616 = a + 18446744073709551616 by omega]
    by_cases cb : b < 0
    · rw [show b / 9223372036854775808 = -1 by omega, and_ones ⟨a0, a1⟩, show b % 18446744073709551616 = b + 18446744073709551616 by omega]
      have e : (a + 18446744073709551616) * (b + 18446744073709551616) = a * b + a * 18446744073709551616 + b * 18446744073709551616 + 18446744073709551616 * 18446744073709551616 := by grind
      rw [e]
      unfold wrap64
      generalize a * b = m at *
      congr 2 <;> omega
    · rw [show b / 9223372036854775808 = 0 by omega, and_none, show b % 18446744073709551616 = b by omega]
      have e : (a + 18446744073709551616) * b = a * b + b * 18446744073709551616 := by grind
      rw [e]
      unfold wrap64
      generalize a * b = m at *
      congr 2 <;> omega
  · rw [show a / 9223372036854775808 = 0 by omega, and_none, show a % 18446744073709551616 = a by omega]
    by_cases cb : b < 0
    · rw [show b / 9223372036854775808 = -1 by omega, and_ones ⟨a0, a1⟩, show b % 18446744073709551616 = b + 18446744073709551616 by omega]
      have e : a * (b + 18446744073709551616) = a * b + a * 18446744073709551616 := by grind
      rw [e]
      unfold wrap64
      generalize a * b = m at *
      congr 2 <;> omega
    · rw [show b / 9223372036854775808 = 0 by omega, and_none, show b % 18446744073709551616 = b by omega]
      unfold wrap64
      generalize a * b = m at *
      congr 2 <;> omega

theorem turned {hi lo : Int} (h : I64 hi) (l : U64 lo) : ∃ h' l', wide_turned.f hi lo = some (h', l') ∧ I64 h' ∧ U64 l' ∧
    (h' % 18446744073709551616) * 18446744073709551616 + l' = (-(hi * 18446744073709551616 + lo)) % 340282366920938463463374607431768211456 := by
  obtain ⟨h0, h1⟩ := h
  obtain ⟨l0, l1⟩ := l
  unfold wide_turned.f
  rw [if_pos l0, if_pos l1]
  refine ⟨_, _, rfl, ?_, ?_, ?_⟩
  · unfold wrap64
    omega
  · unfold XWalk.d64
    omega
  · unfold wrap64 XWalk.b64 XWalk.d64
    split <;> omega

/-- A quotient, or the error. -/
def mdiv (A b way : Int) : Int × Int :=
  if way < 0 ∨ way ≥ 2 then (0, 2) else if b = 0 then (0, 4) else if -9223372036854775808 ≤ rnd A b way ∧ rnd A b way ≤ 9223372036854775807 then (rnd A b way, 0) else (0, 3)

/-- what is told of a quotient without its sign -/
def toldQ (Q : Int) (less : Bool) : Int × Int := if less = true then (if Q ≤ 9223372036854775808 then (-Q, 0) else (0, 3)) else (if Q < 9223372036854775808 then (Q, 0) else (0, 3))

theorem j3_told {h l rest by_ : Int} {less : Bool} (h0 : 0 ≤ h) (l0 : 0 ≤ l) (l1 : l < 18446744073709551616) (k : Nat) : wide_Div.j3 (k + 2) h l rest by_ less = some (toldQ (h * 18446744073709551616 + l) less) := by
  simp only [wide_Div.j3]
  unfold toldQ
  by_cases c : h > 0
  · rw [if_pos c, if_neg (c := h * 18446744073709551616 + l ≤ _) (by omega), if_neg (c := h * 18446744073709551616 + l < _) (by omega)]
    simp
  · rw [if_neg c, show h * 18446744073709551616 + l = l by omega]
    cases less
    · simp only [wide_Div.j4, Bool.false_eq_true, if_false]
      split
      · rw [w64 (by omega) (by omega)]
      · rfl
    · simp only [wide_Div.j4, if_true]
      by_cases d : l ≤ 9223372036854775808
      · rw [decide_eq_true d, if_pos d]
        simp only [if_true]
        congr 2
        rw [wu]
        unfold wrap64
        omega
      · rw [decide_eq_false d, if_neg d]
        simp

theorem j5_told {h l rest by_ : Int} {less : Bool} (h0 : 0 ≤ h) (l0 : 0 ≤ l) (l1 : l < 18446744073709551616) (k : Nat) : wide_Div.j5 (k + 2) h l rest by_ less = some (toldQ (h * 18446744073709551616 + l) less) := by
  simp only [wide_Div.j5]
  unfold toldQ
  by_cases c : h > 0
  · rw [if_pos c, if_neg (c := h * 18446744073709551616 + l ≤ _) (by omega), if_neg (c := h * 18446744073709551616 + l < _) (by omega)]
    simp
  · rw [if_neg c, show h * 18446744073709551616 + l = l by omega]
    cases less
    · simp only [wide_Div.j6, Bool.false_eq_true, if_false]
      split
      · rw [w64 (by omega) (by omega)]
      · rfl
    · simp only [wide_Div.j6, if_true]
      by_cases d : l ≤ 9223372036854775808
      · rw [decide_eq_true d, if_pos d]
        simp only [if_true]
        congr 2
        rw [wu]
        unfold wrap64
        omega
      · rw [decide_eq_false d, if_neg d]
        simp

theorem near_told {q0 lo rest y : Int} {less : Bool} (r0 : 0 ≤ rest) (r1 : rest < y) (y1 : y < 18446744073709551616) (l0 : 0 ≤ lo) (l1 : lo < 18446744073709551616) :
    wide_quotient_near.f q0 lo rest y less = some (decide (2 * rest > y ∨ 2 * rest = y ∧ lo % 2 = 1)) := by
  unfold wide_quotient_near.f
  by_cases c : rest / 9223372036854775808 = 1
  · rw [if_pos c, decide_eq_true (by omega)]
  · rw [if_neg c, wu_id (n := rest * 2) (by omega) (by omega), and1 l0 l1]
    by_cases d : rest * 2 > y
    · rw [if_pos d, decide_eq_true (by omega)]
    · rw [if_neg d]
      by_cases e : rest * 2 = y
      · rw [if_pos e]
        congr 1
        rw [Bool.eq_iff_iff, beq_iff_eq, decide_eq_true_iff]
        omega
      · rw [if_neg e, decide_eq_false (by omega)]

/-- what is told of the sizes, by the law of sizes and signs -/
theorem told_rnd {A b way X y : Int} (hw : way = 0 ∨ way = 1) (hb : b ≠ 0) (hX : X = if A < 0 then -A else A) (hy : y = if b < 0 then -b else b) :
    toldQ (X / y + if upf way X y (decide (A < 0) != decide (b < 0)) = true then 1 else 0) (decide (A < 0) != decide (b < 0)) = mdiv A b way := by
  have this := rnd_sizes hw hb hX hy
  have hy0 : 0 < y := by subst hy; split <;> omega
  have hX0 : 0 ≤ X := by subst hX; split <;> omega
  have q0 : 0 ≤ X / y := Int.ediv_nonneg hX0 (by omega)
  unfold mdiv
  rw [if_neg (c := way < 0 ∨ way ≥ 2) (by omega), if_neg hb, this]
  generalize upf way X y (decide (A < 0) != decide (b < 0)) = up
  generalize (decide (A < 0) != decide (b < 0)) = less
  have p0 : 0 ≤ X / y + if up = true then (1 : Int) else 0 := by
    split <;> omega
  generalize (X / y + if up = true then (1 : Int) else 0) = Q at *
  unfold toldQ
  cases less
  · simp only [Bool.false_eq_true, if_false]
    by_cases c : Q < 9223372036854775808
    · rw [if_pos c, if_pos (by omega)]
    · rw [if_neg c, if_neg (by omega)]
  · simp only [if_true]
    by_cases c : Q ≤ 9223372036854775808
    · rw [if_pos c, if_pos (by omega)]
    · rw [if_neg c, if_neg (by omega)]

/-- the sum of a word and 1, with what goes over -/
theorem up_one {qh ql : Int} (h0 : 0 ≤ qh) (h1 : qh ≤ 9223372036854775808) (l0 : 0 ≤ ql) (l1 : ql < 18446744073709551616) :
    IntKind.u64.wrap (qh + XWalk.c64 ql 1 0) * 18446744073709551616 + XWalk.s64 ql 1 0 = qh * 18446744073709551616 + ql + 1 ∧ 0 ≤ IntKind.u64.wrap (qh + XWalk.c64 ql 1 0) ∧ 0 ≤ XWalk.s64 ql 1 0 ∧ XWalk.s64 ql 1 0 < 18446744073709551616 := by
  rw [wu]
  unfold XWalk.c64 XWalk.s64
  refine ⟨by omega, by omega, by omega, by omega⟩

theorem div {hi lo b way : Int} (h : I64 hi) (l : U64 lo) (hb : I64 b) {k : Nat} (hk : 30 ≤ k) : wide_Div.f k hi lo b way = some (mdiv (hi * 18446744073709551616 + lo) b way) := by
  obtain ⟨k, rfl⟩ : ∃ m, k = m + 30 := ⟨k - 30, by omega⟩
  unfold wide_Div.f
  by_cases c : way < 0 ∨ way ≥ 2
  · have e : mdiv (hi * 18446744073709551616 + lo) b way = (0, 2) := by unfold mdiv; rw [if_pos c]
    rw [e]
    by_cases c1 : way < 0
    · rw [if_pos c1]
      simp only [wide_Div.j0, if_true]
    · rw [if_neg c1, decide_eq_true (by omega)]
      simp only [wide_Div.j0, if_true]
  rw [if_neg (by omega), decide_eq_false (by omega)]
  simp only [wide_Div.j0, Bool.false_eq_true, if_false]
  by_cases cb : b = 0
  · rw [if_pos cb]
    unfold mdiv
    rw [if_neg c, if_pos cb]
  rw [if_neg cb]
  have hw : way = 0 ∨ way = 1 := by omega
  obtain ⟨h0, h1⟩ := h
  obtain ⟨l0, l1⟩ := l
  obtain ⟨b0, b1⟩ := hb
  have main : ∀ xh xl : Int, U64 xl → I64 xh → (xh % 18446744073709551616) * 18446744073709551616 + xl = (if hi * 18446744073709551616 + lo < 0 then -(hi * 18446744073709551616 + lo) else hi * 18446744073709551616 + lo) →
      wide_Div.j1 (k + 29) b way (IntKind.u64.wrap b) hi lo xh xl = some (mdiv (hi * 18446744073709551616 + lo) b way) := by
    intro xh xl ⟨xl0, xl1⟩ ⟨xh0, xh1⟩ hX
    have j2 : ∀ y : Int, y = (if b < 0 then -b else b) → wide_Div.j2 (k + 28) b way y hi lo xh xl = some (mdiv (hi * 18446744073709551616 + lo) b way) := by
      intro y hy
      have hy0 : 0 < y := by subst hy; split <;> omega
      have hy1 : y ≤ 9223372036854775808 := by subst hy; split <;> omega
      simp only [wide_Div.j2]
      rw [if_neg (by omega), wu xh, td_nn (by omega), tm_nn (by omega)]
      have x0 : 0 ≤ xh % 18446744073709551616 := by omega
      have x1 : xh % 18446744073709551616 ≤ 9223372036854775808 := by
        split at hX <;> omega
      generalize xh % 18446744073709551616 = X1 at *
      have a := Int.mul_ediv_add_emod X1 y
      have a0 := Int.emod_nonneg X1 (show y ≠ 0 by omega)
      have a1 := Int.emod_lt_of_pos X1 hy0
      have q0 : 0 ≤ X1 / y := Int.ediv_nonneg x0 (by omega)
      have q1 : X1 / y ≤ X1 := Int.ediv_le_self _ x0
      rw [div64 a0 a1 xl0 xl1 (by omega) (by omega)]
      simp only [Option.bind_some]
      generalize X1 / y = qh at *
      generalize X1 % y = rest at *
      have m := Int.mul_ediv_add_emod (rest * 18446744073709551616 + xl) y
      have m0 := Int.emod_nonneg (rest * 18446744073709551616 + xl) (show y ≠ 0 by omega)
      have m1 := Int.emod_lt_of_pos (rest * 18446744073709551616 + xl) hy0
      have p0 : 0 ≤ (rest * 18446744073709551616 + xl) / y := Int.ediv_nonneg (by omega) (by omega)
      have p1 : (rest * 18446744073709551616 + xl) / y < 18446744073709551616 := by
        rw [Int.ediv_lt_iff_lt_mul hy0, Int.mul_comm]
        omega
      generalize (rest * 18446744073709551616 + xl) / y = ql at *
      generalize (rest * 18446744073709551616 + xl) % y = rr at *
      have whole := Knuth.quot_uniq (A := X1 * 18446744073709551616 + xl) (b := y) (q := qh * 18446744073709551616 + ql) (r := rr) hy0 (by
        rw [Int.mul_add, ← Int.mul_assoc]
        generalize y * qh = u at *
        generalize y * ql = v at *
        omega) m0 m1
      have T := told_rnd (A := hi * 18446744073709551616 + lo) (b := b) (way := way) (X := X1 * 18446744073709551616 + xl) (y := y) hw cb hX hy
      unfold upf at T
      rw [whole.1, whole.2] at T
      have s : (!(decide (hi < 0) == decide (b < 0))) = (decide (hi * 18446744073709551616 + lo < 0) != decide (b < 0)) := by
        rw [show decide (hi < 0) = decide (hi * 18446744073709551616 + lo < 0) from decide_eq_decide.2 (by omega)]
        rfl
      rw [s, ← T]
      generalize (decide (hi * 18446744073709551616 + lo < 0) != decide (b < 0)) = less
      obtain ⟨u1, u2, u3, u4⟩ := up_one (qh := qh) (ql := ql) q0 (by omega) p0 p1
      rcases hw with rfl | rfl
      · simp only [if_true]
        have F : wide_quotient_floor.f (IntKind.u64.wrap qh) ql rr y less = some (less && decide (rr > 0)) := by
          unfold wide_quotient_floor.f
          cases less <;> simp
        rw [F]
        simp only [Option.bind_some]
        rw [wu_id (n := qh) q0 (by omega)]
        by_cases d : (less && decide (rr > 0)) = true
        · rw [if_pos d, if_pos d, if_pos p0]
          rw [j3_told u2 u3 u4, u1]
          first | done | rfl
        · rw [if_neg d, if_neg d]
          rw [j3_told q0 p0 p1]
          simp
      · simp only [show ((1 : Int) = 0) = False by simp, if_false, if_true]
        rw [near_told m0 m1 (by omega) p0 p1]
        simp only [Option.bind_some]
        rw [wu_id (n := qh) q0 (by omega)]
        have par : (qh * 18446744073709551616 + ql) % 2 = ql % 2 := by omega
        rw [par]
        by_cases d : (decide (2 * rr > y ∨ 2 * rr = y ∧ ql % 2 = 1)) = true
        · rw [if_pos d, if_pos d, if_pos p0]
          rw [j5_told u2 u3 u4, u1]
          first | done | rfl
        · rw [if_neg d, if_neg d]
          rw [j5_told q0 p0 p1]
          simp
    simp only [wide_Div.j1]
    by_cases d : b < 0
    · rw [if_pos d]
      refine j2 _ ?_
      rw [wu, wu, if_pos d]
      omega
    · rw [if_neg d]
      refine j2 _ ?_
      rw [wu, if_neg d]
      omega
  by_cases d : hi < 0
  · rw [if_pos d]
    obtain ⟨h', l', e, i1, i2, i3⟩ := turned ⟨h0, h1⟩ ⟨l0, l1⟩
    rw [e]
    simp only [Option.bind_some]
    refine main h' l' i2 i1 ?_
    rw [i3, if_pos (by omega)]
    omega
  · rw [if_neg d]
    refine main hi lo ⟨l0, l1⟩ ⟨h0, h1⟩ ?_
    rw [if_neg (by omega)]
    omega

theorem mulDiv {a b c way : Int} (ha : I64 a) (hb : I64 b) (hc : I64 c) {k : Nat} (hk : 30 ≤ k) : wide_MulDiv.f k a b c way = some (mdiv (a * b) c way) := by
  unfold wide_MulDiv.f
  rw [mul ha hb]
  have hm := mul_i64 ha hb
  simp only [Option.bind_some]
  rw [div ⟨by omega, by omega⟩ ⟨by omega, by omega⟩ hc hk]
  simp only [Option.bind_some]
  rw [show a * b / 18446744073709551616 * 18446744073709551616 + a * b % 18446744073709551616 = a * b by omega]
end Go.Proofs.Ytioicmialbimfaa.XWide
end

section
namespace Go.Proofs.Ytioicmialbimfaa.XMdiv
set_option linter.unusedVariables false
set_option linter.unusedSimpArgs false
open Go.RowKit Go.Proofs.Ytioicmialbimfaa.S Go.Proofs.Ytioicmialbimfaa.XNum Go.Proofs.Ytioicmialbimfaa.XBits Go.Proofs.Ytioicmialbimfaa.XWide Go.Proofs.Ytioicmialbimfaa.Rnd Go.Proofs.YtioicmialbimfaaW.PrintWords

theorem rnd_n {A b : Int} (hb : 0 < b) : rnd A b 1 = near A b := by
  unfold rnd
  rw [if_neg (c := (1 : Int) = 0) (by omega), if_neg (c := b < 0) (by omega)]
/-- to the nearer one, by a number above 0 -/
theorem mdiv_n {A b : Int} (hb : 0 < b) : mdiv A b 1 = if I64 (near A b) then (near A b, 0) else (0, 3) := by
  unfold mdiv
  rw [if_neg (c := (1 : Int) < 0 ∨ (1 : Int) ≥ 2) (by omega), if_neg (c := b = 0) (by omega), rnd_n hb]
theorem mdiv_in {A b : Int} (hb : 0 < b) (h : I64 (near A b)) : mdiv A b 1 = (near A b, 0) := by
  rw [mdiv_n hb, if_pos h]
theorem mdiv_i64 (A b way : Int) : I64 (mdiv A b way).1 := by
  unfold mdiv
  split
  · exact ⟨by decide, by decide⟩
  · split
    · exact ⟨by decide, by decide⟩
    · split
      · assumption
      · exact ⟨by decide, by decide⟩
theorem mdiv_err (A b way : Int) : (mdiv A b way).2 ≠ 0 → (mdiv A b way).1 = 0 := by
  unfold mdiv
  split
  · intro _; rfl
  · split
    · intro _; rfl
    · split
      · intro h; exact absurd rfl h
      · intro _; rfl
/-- of a number of 0 or more, by a greater one there is no more -/
theorem near_anti {A b c : Int} (hA : 0 ≤ A) (hb : 0 < b) (h : b ≤ c) : near A c ≤ near A b := by
  obtain ⟨a1, a2, a3⟩ := near_spec (A := A) hb
  obtain ⟨b1, b2, b3⟩ := near_spec (A := A) (b := c) (by omega)
  have n0 := near_nn (A := A) hb hA
  have m0 := near_nn (A := A) (b := c) (by omega) hA
  generalize near A b = N at *
  generalize near A c = M at *
  by_cases d : M ≤ N
  · exact d
  -- M ≥ N + 1: c M ≥ c (N + 1) ≥ b N + ..
  have e1 : c * (N + 1) ≤ c * M := Int.mul_le_mul_of_nonneg_left (by omega) (by omega)
  have e2 : b * N ≤ c * N := Int.mul_le_mul_of_nonneg_right h n0
  rw [Int.mul_add, Int.mul_one] at e1
  -- 2 c M ≤ 2 A + c, 2 A ≤ 2 b N + b
  have e3 : M = N + 1 := by
    by_cases f : M = N + 1
    · exact f
    · have : c * (N + 2) ≤ c * M := Int.mul_le_mul_of_nonneg_left (by omega) (by omega)
      rw [Int.mul_add] at this
      omega
  subst e3
  rw [Int.mul_add, Int.mul_one] at *
  by_cases g : b = c
  · subst g
    omega
  · omega
end Go.Proofs.Ytioicmialbimfaa.XMdiv
end

section
namespace Go.Proofs.Ytioicmialbimfaa.S
open Go.RowKit Go.Proofs.YtioicmialbimfaaW.PrintWords Go.Proofs.YtioicmialbimfaaW.PrintLast Go.Proofs.YtioicmialbimfaaW.PrintMore
attribute [local go_sem] max2_int min2_int max_two min_two max_three min_three max_four min_four   -- for this text's walks alone
attribute [local go_sem] Go.Proofs.Ytioicmialbimfaa.XWalk.cell2
set_option linter.unusedVariables false
set_option linter.unusedSimpArgs false

/-! ### rate_forth_terms: function 90 -/
def rate_forth_terms.f (a0 : Int) : Option (Int × Int) := some (wrap64 (1000000000000 + a0), 1000000000000)
set_option maxHeartbeats 8000000 in
set_option maxRecDepth 100000 in
theorem rate_forth_terms.calls (a0 : Int) (r1 : Int) (r2 : Int) (w : World) (h : rate_forth_terms.f a0 = some (r1, r2)) :
    Calls Try.prog 90 #[.int .i64 a0] w fun e w' => e = .returned (.tuple #[.int .i64 r1, .int .i64 r2]) ∧ Drawn0 w w' := by
  have H : (some (wrap64 (1000000000000 + a0), 1000000000000)) = some (r1, r2) := h
  clear h
  simp only [Option.some.injEq, Prod.mk.injEq] at H
  obtain ⟨rfl, rfl⟩ := H
  go_enter Try.func90, Try.ntmps90
  go_wp2
  go_ret2
  exact ⟨by first | rfl | (simp; done) | (simp [*]; done), by repeat (first | exact Drawn0.refl _ | apply Drawn0.step)⟩

end Go.Proofs.Ytioicmialbimfaa.S
end

section
namespace Go.Proofs.Ytioicmialbimfaa.S
open Go.RowKit Go.Proofs.YtioicmialbimfaaW.PrintWords Go.Proofs.YtioicmialbimfaaW.PrintLast Go.Proofs.YtioicmialbimfaaW.PrintMore
attribute [local go_sem] max2_int min2_int max_two min_two max_three min_three max_four min_four   -- for this text's walks alone
attribute [local go_sem] Go.Proofs.Ytioicmialbimfaa.XWalk.cell2
set_option linter.unusedVariables false
set_option linter.unusedSimpArgs false

/-! ### rate_over_rate_forth: function 38 -/
def rate_over_rate_forth.f (k : Nat) (a0 : Int) (a1 : Int) : Option (Int × Int) := (rate_May.f a1).bind fun t131 => (if t131 = true then ((rate_forth_terms.f a1).bind fun bt132 => ((wide_MulDiv.f k a0 bt132.1 bt132.2 1).bind fun bt134 => (some (bt134.1, bt134.2)))) else (some (0, 2)))
theorem rate_over_rate_forth.mono : ∀ a0 a1 k, LeO (rate_over_rate_forth.f k a0 a1) (rate_over_rate_forth.f (k + 1) a0 a1) := by
  intro a0 a1 k
  unfold rate_over_rate_forth.f
  repeat' first
      | (with_reducible exact wide_MulDiv.mono _ _ _ _ _)
      | (with_reducible exact LeO.refl _)
      | (with_reducible exact LeO.none _)
      | (with_reducible refine LeO.ite ?_ ?_)
      | (with_reducible refine LeO.bind ?_ (fun _ => ?_))
      | exact wide_MulDiv.mono _ _ _ _ _
      | exact LeO.none _
      | refine LeO.ite ?_ ?_
      | refine LeO.bind ?_ (fun _ => ?_)
set_option maxHeartbeats 8000000 in
set_option maxRecDepth 100000 in
theorem rate_over_rate_forth.calls (k : Nat) (a0 : Int) (a1 : Int) (r1 : Int) (r2 : Int) (w : World) (h : rate_over_rate_forth.f k a0 a1 = some (r1, r2)) :
    Calls Try.prog 38 #[.int .i64 a0, .int .i64 a1] w fun e w' => e = .returned (.tuple #[.int .i64 r1, .int .i64 r2]) ∧ Below w.heap.size w w' := by
  have HB := Aside0.mk (Below.refl w.heap.size w)
  have H : ((rate_May.f a1).bind fun t131 => (if t131 = true then ((rate_forth_terms.f a1).bind fun bt132 => ((wide_MulDiv.f k a0 bt132.1 bt132.2 1).bind fun bt134 => (some (bt134.1, bt134.2)))) else (some (0, 2)))) = some (r1, r2) := h
  clear h
  replace H := Option.bind_eq_some_iff.mp H
  obtain ⟨t131, A30, H⟩ := H
  replace H : (if t131 = true then ((rate_forth_terms.f a1).bind fun bt132 => ((wide_MulDiv.f k a0 bt132.1 bt132.2 1).bind fun bt134 => (some (bt134.1, bt134.2)))) else (some (0, 2))) = some (r1, r2) := H
  have A3 := Aside0.mk A30
  clear A30
  by_cases c4 : t131 = true
  · subst c4
    have H1 : ((rate_forth_terms.f a1).bind fun bt132 => ((wide_MulDiv.f k a0 bt132.1 bt132.2 1).bind fun bt134 => (some (bt134.1, bt134.2)))) = some (r1, r2) := by rw [if_pos rfl] at H; exact H
    clear H
    have H := H1
    clear H1
    replace H := Option.bind_eq_some_iff.mp H
    obtain ⟨⟨t132, t133⟩, A50, H⟩ := H
    replace H : ((wide_MulDiv.f k a0 t132 t133 1).bind fun bt134 => (some (bt134.1, bt134.2))) = some (r1, r2) := H
    have A5 := Aside0.mk A50
    clear A50
    replace H := Option.bind_eq_some_iff.mp H
    obtain ⟨⟨t134, t135⟩, A60, H⟩ := H
    replace H : (some (t134, t135)) = some (r1, r2) := H
    have A6 := Aside0.mk A60
    clear A60
    simp only [Option.some.injEq, Prod.mk.injEq] at H
    obtain ⟨rfl, rfl⟩ := H
    go_enter Try.func38, Try.ntmps38
    go_wp2_with (first | ((with_reducible refine gate_callee (f := 21) rfl ?_); refine goesL_ (some 9) rfl rfl Try.func21 (by kernel_rfl) rfl #[.int .i64 a1] rfl (by (try simp only [List.map_toArray, List.map_cons, List.map_nil]); first | done | rfl | (simp only [List.length_drop, List.length_take]; rfl)) ?_; (with_reducible refine (rate_May.calls a1 true _ A3.out).mono ?_); rintro e w' ⟨rfl, ⟨nd, rfl⟩⟩; refine ⟨_, rfl, ?_⟩) | (go_at_call 90; (with_reducible refine (rate_forth_terms.calls a1 t132 t133 _ A5.out).mono ?_); rintro e w' ⟨rfl, ⟨nd, rfl⟩⟩) | ((with_reducible refine gate_callee (f := 40) rfl ?_); refine goesL_ (some 20) rfl rfl Try.func40 (by kernel_rfl) rfl #[.int .i64 a0, .int .i64 t132, .int .i64 t133, .int .i64 1] rfl (by (try simp only [List.map_toArray, List.map_cons, List.map_nil]); first | done | rfl | (simp only [List.length_drop, List.length_take]; rfl)) ?_; (with_reducible refine (wide_MulDiv.calls k a0 t132 t133 1 t134 t135 _ A6.out).mono ?_); rintro e w7 ⟨rfl, hb⟩; refine ⟨_, rfl, ?_⟩; have n0_ := Aside0.mk (below_step (by repeat (first | (with_reducible first | exact HB.out | apply below_alloc | apply pw_below_drewN | apply below_drew1) | exact HB.out)) hb); clear HB; have HB := n0_; clear n0_; (try clear hb); (try clear hb2); (try clear hk); (try clear hi)))
    go_ret2
    exact ⟨by first | rfl | (simp [errW_none, errW_some] <;> rfl) | (simp [*, errW_none, errW_some] <;> rfl), by repeat (first | (with_reducible first | exact HB.out | apply below_alloc | apply pw_below_drewN | apply below_drew1) | exact HB.out)⟩
  · replace c4 := Bool.eq_false_iff.mpr c4
    subst c4
    have H1 : (some (0, 2)) = some (r1, r2) := by rw [if_neg (show ¬ (false = true) by decide)] at H; exact H
    clear H
    have H := H1
    clear H1
    simp only [Option.some.injEq, Prod.mk.injEq] at H
    obtain ⟨rfl, rfl⟩ := H
    go_enter Try.func38, Try.ntmps38
    go_wp2_with (first | ((with_reducible refine gate_callee (f := 21) rfl ?_); refine goesL_ (some 9) rfl rfl Try.func21 (by kernel_rfl) rfl #[.int .i64 a1] rfl (by (try simp only [List.map_toArray, List.map_cons, List.map_nil]); first | done | rfl | (simp only [List.length_drop, List.length_take]; rfl)) ?_; (with_reducible refine (rate_May.calls a1 false _ A3.out).mono ?_); rintro e w' ⟨rfl, ⟨nd, rfl⟩⟩; refine ⟨_, rfl, ?_⟩))
    go_ret2
    exact ⟨by first | rfl | (simp [errW_none, errW_some] <;> rfl) | (simp [*, errW_none, errW_some] <;> rfl), by repeat (first | (with_reducible first | exact HB.out | apply below_alloc | apply pw_below_drewN | apply below_drew1) | exact HB.out)⟩

end Go.Proofs.Ytioicmialbimfaa.S
end

section
namespace Go.Proofs.Ytioicmialbimfaa.S
open Go.RowKit Go.Proofs.YtioicmialbimfaaW.PrintWords Go.Proofs.YtioicmialbimfaaW.PrintLast Go.Proofs.YtioicmialbimfaaW.PrintMore
attribute [local go_sem] max2_int min2_int max_two min_two max_three min_three max_four min_four   -- for this text's walks alone
attribute [local go_sem] Go.Proofs.Ytioicmialbimfaa.XWalk.cell2
set_option linter.unusedVariables false
set_option linter.unusedSimpArgs false

/-! ### rate_Grow: function 17 -/
def rate_Grow.f (k : Nat) (a0 : Int) (a1 : Int) : Option (Int × Int) := (rate_over_rate_forth.f k a0 a1).bind fun bt136 => (some (bt136.1, bt136.2))
theorem rate_Grow.mono : ∀ a0 a1 k, LeO (rate_Grow.f k a0 a1) (rate_Grow.f (k + 1) a0 a1) := by
  intro a0 a1 k
  unfold rate_Grow.f
  repeat' first
      | (with_reducible exact rate_over_rate_forth.mono _ _ _)
      | (with_reducible exact LeO.refl _)
      | (with_reducible exact LeO.none _)
      | (with_reducible refine LeO.ite ?_ ?_)
      | (with_reducible refine LeO.bind ?_ (fun _ => ?_))
      | exact rate_over_rate_forth.mono _ _ _
      | exact LeO.none _
      | refine LeO.ite ?_ ?_
      | refine LeO.bind ?_ (fun _ => ?_)
set_option maxHeartbeats 8000000 in
set_option maxRecDepth 100000 in
theorem rate_Grow.calls (k : Nat) (a0 : Int) (a1 : Int) (r1 : Int) (r2 : Int) (w : World) (h : rate_Grow.f k a0 a1 = some (r1, r2)) :
    Calls Try.prog 17 #[.int .i64 a0, .int .i64 a1] w fun e w' => e = .returned (.tuple #[.int .i64 r1, .int .i64 r2]) ∧ Below w.heap.size w w' := by
  have HB := Aside0.mk (Below.refl w.heap.size w)
  have H : ((rate_over_rate_forth.f k a0 a1).bind fun bt136 => (some (bt136.1, bt136.2))) = some (r1, r2) := h
  clear h
  replace H := Option.bind_eq_some_iff.mp H
  obtain ⟨⟨t136, t137⟩, A30, H⟩ := H
  replace H : (some (t136, t137)) = some (r1, r2) := H
  have A3 := Aside0.mk A30
  clear A30
  simp only [Option.some.injEq, Prod.mk.injEq] at H
  obtain ⟨rfl, rfl⟩ := H
  go_enter Try.func17, Try.ntmps17
  go_wp2_with (first | ((with_reducible refine gate_callee (f := 38) rfl ?_); refine goesL_ (some 8) rfl rfl Try.func38 (by kernel_rfl) rfl #[.int .i64 a0, .int .i64 a1] rfl (by (try simp only [List.map_toArray, List.map_cons, List.map_nil]); first | done | rfl | (simp only [List.length_drop, List.length_take]; rfl)) ?_; (with_reducible refine (rate_over_rate_forth.calls k a0 a1 t136 t137 _ A3.out).mono ?_); rintro e w4 ⟨rfl, hb⟩; refine ⟨_, rfl, ?_⟩; have n0_ := Aside0.mk (below_step (by repeat (first | (with_reducible first | exact HB.out | apply below_alloc | apply pw_below_drewN | apply below_drew1) | exact HB.out)) hb); clear HB; have HB := n0_; clear n0_; (try clear hb); (try clear hb2); (try clear hk); (try clear hi)))
  go_ret2
  exact ⟨by first | rfl | (simp [errW_none, errW_some] <;> rfl) | (simp [*, errW_none, errW_some] <;> rfl), by repeat (first | (with_reducible first | exact HB.out | apply below_alloc | apply pw_below_drewN | apply below_drew1) | exact HB.out)⟩

end Go.Proofs.Ytioicmialbimfaa.S
end

section
namespace Go.Proofs.Ytioicmialbimfaa.S
open Go.RowKit Go.Proofs.YtioicmialbimfaaW.PrintWords Go.Proofs.YtioicmialbimfaaW.PrintLast Go.Proofs.YtioicmialbimfaaW.PrintMore
attribute [local go_sem] max2_int min2_int max_two min_two max_three min_three max_four min_four   -- for this text's walks alone
attribute [local go_sem] Go.Proofs.Ytioicmialbimfaa.XWalk.cell2
set_option linter.unusedVariables false
set_option linter.unusedSimpArgs false

/-! ### rate_back_terms: function 91 -/
def rate_back_terms.f (a0 : Int) : Option (Int × Int) := some (1000000000000, wrap64 (1000000000000 + a0))
set_option maxHeartbeats 8000000 in
set_option maxRecDepth 100000 in
theorem rate_back_terms.calls (a0 : Int) (r1 : Int) (r2 : Int) (w : World) (h : rate_back_terms.f a0 = some (r1, r2)) :
    Calls Try.prog 91 #[.int .i64 a0] w fun e w' => e = .returned (.tuple #[.int .i64 r1, .int .i64 r2]) ∧ Drawn0 w w' := by
  have H : (some (1000000000000, wrap64 (1000000000000 + a0))) = some (r1, r2) := h
  clear h
  simp only [Option.some.injEq, Prod.mk.injEq] at H
  obtain ⟨rfl, rfl⟩ := H
  go_enter Try.func91, Try.ntmps91
  go_wp2
  go_ret2
  exact ⟨by first | rfl | (simp; done) | (simp [*]; done), by repeat (first | exact Drawn0.refl _ | apply Drawn0.step)⟩

end Go.Proofs.Ytioicmialbimfaa.S
end

section
namespace Go.Proofs.Ytioicmialbimfaa.S
open Go.RowKit Go.Proofs.YtioicmialbimfaaW.PrintWords Go.Proofs.YtioicmialbimfaaW.PrintLast Go.Proofs.YtioicmialbimfaaW.PrintMore
attribute [local go_sem] max2_int min2_int max_two min_two max_three min_three max_four min_four   -- for this text's walks alone
attribute [local go_sem] Go.Proofs.Ytioicmialbimfaa.XWalk.cell2
set_option linter.unusedVariables false
set_option linter.unusedSimpArgs false

/-! ### rate_over_rate_back: function 39 -/
def rate_over_rate_back.f (k : Nat) (a0 : Int) (a1 : Int) : Option (Int × Int) := (rate_May.f a1).bind fun t138 => (if t138 = true then ((rate_back_terms.f a1).bind fun bt139 => ((wide_MulDiv.f k a0 bt139.1 bt139.2 1).bind fun bt141 => (some (bt141.1, bt141.2)))) else (some (0, 2)))
theorem rate_over_rate_back.mono : ∀ a0 a1 k, LeO (rate_over_rate_back.f k a0 a1) (rate_over_rate_back.f (k + 1) a0 a1) := by
  intro a0 a1 k
  unfold rate_over_rate_back.f
  repeat' first
      | (with_reducible exact wide_MulDiv.mono _ _ _ _ _)
      | (with_reducible exact LeO.refl _)
      | (with_reducible exact LeO.none _)
      | (with_reducible refine LeO.ite ?_ ?_)
      | (with_reducible refine LeO.bind ?_ (fun _ => ?_))
      | exact wide_MulDiv.mono _ _ _ _ _
      | exact LeO.none _
      | refine LeO.ite ?_ ?_
      | refine LeO.bind ?_ (fun _ => ?_)
set_option maxHeartbeats 8000000 in
set_option maxRecDepth 100000 in
theorem rate_over_rate_back.calls (k : Nat) (a0 : Int) (a1 : Int) (r1 : Int) (r2 : Int) (w : World) (h : rate_over_rate_back.f k a0 a1 = some (r1, r2)) :
    Calls Try.prog 39 #[.int .i64 a0, .int .i64 a1] w fun e w' => e = .returned (.tuple #[.int .i64 r1, .int .i64 r2]) ∧ Below w.heap.size w w' := by
  have HB := Aside0.mk (Below.refl w.heap.size w)
  have H : ((rate_May.f a1).bind fun t138 => (if t138 = true then ((rate_back_terms.f a1).bind fun bt139 => ((wide_MulDiv.f k a0 bt139.1 bt139.2 1).bind fun bt141 => (some (bt141.1, bt141.2)))) else (some (0, 2)))) = some (r1, r2) := h
  clear h
  replace H := Option.bind_eq_some_iff.mp H
  obtain ⟨t138, A30, H⟩ := H
  replace H : (if t138 = true then ((rate_back_terms.f a1).bind fun bt139 => ((wide_MulDiv.f k a0 bt139.1 bt139.2 1).bind fun bt141 => (some (bt141.1, bt141.2)))) else (some (0, 2))) = some (r1, r2) := H
  have A3 := Aside0.mk A30
  clear A30
  by_cases c4 : t138 = true
  · subst c4
    have H1 : ((rate_back_terms.f a1).bind fun bt139 => ((wide_MulDiv.f k a0 bt139.1 bt139.2 1).bind fun bt141 => (some (bt141.1, bt141.2)))) = some (r1, r2) := by rw [if_pos rfl] at H; exact H
    clear H
    have H := H1
    clear H1
    replace H := Option.bind_eq_some_iff.mp H
    obtain ⟨⟨t139, t140⟩, A50, H⟩ := H
    replace H : ((wide_MulDiv.f k a0 t139 t140 1).bind fun bt141 => (some (bt141.1, bt141.2))) = some (r1, r2) := H
    have A5 := Aside0.mk A50
    clear A50
    replace H := Option.bind_eq_some_iff.mp H
    obtain ⟨⟨t141, t142⟩, A60, H⟩ := H
    replace H : (some (t141, t142)) = some (r1, r2) := H
    have A6 := Aside0.mk A60
    clear A60
    simp only [Option.some.injEq, Prod.mk.injEq] at H
    obtain ⟨rfl, rfl⟩ := H
    go_enter Try.func39, Try.ntmps39
    go_wp2_with (first | ((with_reducible refine gate_callee (f := 21) rfl ?_); refine goesL_ (some 9) rfl rfl Try.func21 (by kernel_rfl) rfl #[.int .i64 a1] rfl (by (try simp only [List.map_toArray, List.map_cons, List.map_nil]); first | done | rfl | (simp only [List.length_drop, List.length_take]; rfl)) ?_; (with_reducible refine (rate_May.calls a1 true _ A3.out).mono ?_); rintro e w' ⟨rfl, ⟨nd, rfl⟩⟩; refine ⟨_, rfl, ?_⟩) | (go_at_call 91; (with_reducible refine (rate_back_terms.calls a1 t139 t140 _ A5.out).mono ?_); rintro e w' ⟨rfl, ⟨nd, rfl⟩⟩) | ((with_reducible refine gate_callee (f := 40) rfl ?_); refine goesL_ (some 20) rfl rfl Try.func40 (by kernel_rfl) rfl #[.int .i64 a0, .int .i64 t139, .int .i64 t140, .int .i64 1] rfl (by (try simp only [List.map_toArray, List.map_cons, List.map_nil]); first | done | rfl | (simp only [List.length_drop, List.length_take]; rfl)) ?_; (with_reducible refine (wide_MulDiv.calls k a0 t139 t140 1 t141 t142 _ A6.out).mono ?_); rintro e w7 ⟨rfl, hb⟩; refine ⟨_, rfl, ?_⟩; have n0_ := Aside0.mk (below_step (by repeat (first | (with_reducible first | exact HB.out | apply below_alloc | apply pw_below_drewN | apply below_drew1) | exact HB.out)) hb); clear HB; have HB := n0_; clear n0_; (try clear hb); (try clear hb2); (try clear hk); (try clear hi)))
    go_ret2
    exact ⟨by first | rfl | (simp [errW_none, errW_some] <;> rfl) | (simp [*, errW_none, errW_some] <;> rfl), by repeat (first | (with_reducible first | exact HB.out | apply below_alloc | apply pw_below_drewN | apply below_drew1) | exact HB.out)⟩
  · replace c4 := Bool.eq_false_iff.mpr c4
    subst c4
    have H1 : (some (0, 2)) = some (r1, r2) := by rw [if_neg (show ¬ (false = true) by decide)] at H; exact H
    clear H
    have H := H1
    clear H1
    simp only [Option.some.injEq, Prod.mk.injEq] at H
    obtain ⟨rfl, rfl⟩ := H
    go_enter Try.func39, Try.ntmps39
    go_wp2_with (first | ((with_reducible refine gate_callee (f := 21) rfl ?_); refine goesL_ (some 9) rfl rfl Try.func21 (by kernel_rfl) rfl #[.int .i64 a1] rfl (by (try simp only [List.map_toArray, List.map_cons, List.map_nil]); first | done | rfl | (simp only [List.length_drop, List.length_take]; rfl)) ?_; (with_reducible refine (rate_May.calls a1 false _ A3.out).mono ?_); rintro e w' ⟨rfl, ⟨nd, rfl⟩⟩; refine ⟨_, rfl, ?_⟩))
    go_ret2
    exact ⟨by first | rfl | (simp [errW_none, errW_some] <;> rfl) | (simp [*, errW_none, errW_some] <;> rfl), by repeat (first | (with_reducible first | exact HB.out | apply below_alloc | apply pw_below_drewN | apply below_drew1) | exact HB.out)⟩

end Go.Proofs.Ytioicmialbimfaa.S
end

section
namespace Go.Proofs.Ytioicmialbimfaa.S
open Go.RowKit Go.Proofs.YtioicmialbimfaaW.PrintWords Go.Proofs.YtioicmialbimfaaW.PrintLast Go.Proofs.YtioicmialbimfaaW.PrintMore
attribute [local go_sem] max2_int min2_int max_two min_two max_three min_three max_four min_four   -- for this text's walks alone
attribute [local go_sem] Go.Proofs.Ytioicmialbimfaa.XWalk.cell2
set_option linter.unusedVariables false
set_option linter.unusedSimpArgs false

/-! ### rate_Discount: function 19 -/
def rate_Discount.f (k : Nat) (a0 : Int) (a1 : Int) : Option (Int × Int) := (rate_over_rate_back.f k a0 a1).bind fun bt143 => (some (bt143.1, bt143.2))
theorem rate_Discount.mono : ∀ a0 a1 k, LeO (rate_Discount.f k a0 a1) (rate_Discount.f (k + 1) a0 a1) := by
  intro a0 a1 k
  unfold rate_Discount.f
  repeat' first
      | (with_reducible exact rate_over_rate_back.mono _ _ _)
      | (with_reducible exact LeO.refl _)
      | (with_reducible exact LeO.none _)
      | (with_reducible refine LeO.ite ?_ ?_)
      | (with_reducible refine LeO.bind ?_ (fun _ => ?_))
      | exact rate_over_rate_back.mono _ _ _
      | exact LeO.none _
      | refine LeO.ite ?_ ?_
      | refine LeO.bind ?_ (fun _ => ?_)
set_option maxHeartbeats 8000000 in
set_option maxRecDepth 100000 in
theorem rate_Discount.calls (k : Nat) (a0 : Int) (a1 : Int) (r1 : Int) (r2 : Int) (w : World) (h : rate_Discount.f k a0 a1 = some (r1, r2)) :
    Calls Try.prog 19 #[.int .i64 a0, .int .i64 a1] w fun e w' => e = .returned (.tuple #[.int .i64 r1, .int .i64 r2]) ∧ Below w.heap.size w w' := by
  have HB := Aside0.mk (Below.refl w.heap.size w)
  have H : ((rate_over_rate_back.f k a0 a1).bind fun bt143 => (some (bt143.1, bt143.2))) = some (r1, r2) := h
  clear h
  replace H := Option.bind_eq_some_iff.mp H
  obtain ⟨⟨t143, t144⟩, A30, H⟩ := H
  replace H : (some (t143, t144)) = some (r1, r2) := H
  have A3 := Aside0.mk A30
  clear A30
  simp only [Option.some.injEq, Prod.mk.injEq] at H
  obtain ⟨rfl, rfl⟩ := H
  go_enter Try.func19, Try.ntmps19
  go_wp2_with (first | ((with_reducible refine gate_callee (f := 39) rfl ?_); refine goesL_ (some 8) rfl rfl Try.func39 (by kernel_rfl) rfl #[.int .i64 a0, .int .i64 a1] rfl (by (try simp only [List.map_toArray, List.map_cons, List.map_nil]); first | done | rfl | (simp only [List.length_drop, List.length_take]; rfl)) ?_; (with_reducible refine (rate_over_rate_back.calls k a0 a1 t143 t144 _ A3.out).mono ?_); rintro e w4 ⟨rfl, hb⟩; refine ⟨_, rfl, ?_⟩; have n0_ := Aside0.mk (below_step (by repeat (first | (with_reducible first | exact HB.out | apply below_alloc | apply pw_below_drewN | apply below_drew1) | exact HB.out)) hb); clear HB; have HB := n0_; clear n0_; (try clear hb); (try clear hb2); (try clear hk); (try clear hi)))
  go_ret2
  exact ⟨by first | rfl | (simp [errW_none, errW_some] <;> rfl) | (simp [*, errW_none, errW_some] <;> rfl), by repeat (first | (with_reducible first | exact HB.out | apply below_alloc | apply pw_below_drewN | apply below_drew1) | exact HB.out)⟩

end Go.Proofs.Ytioicmialbimfaa.S
end

section
namespace Go.Proofs.Ytioicmialbimfaa.S
open Go.RowKit Go.Proofs.YtioicmialbimfaaW.PrintWords Go.Proofs.YtioicmialbimfaaW.PrintLast Go.Proofs.YtioicmialbimfaaW.PrintMore
attribute [local go_sem] max2_int min2_int max_two min_two max_three min_three max_four min_four   -- for this text's walks alone
attribute [local go_sem] Go.Proofs.Ytioicmialbimfaa.XWalk.cell2
set_option linter.unusedVariables false
set_option linter.unusedSimpArgs false

/-! ### rate_Power: function 24 -/
mutual
def rate_Power.j0 : Nat → Int → Int → Bool → Option (Int × Int)
  | 0, _, _, _ => none
  | k + 1, x0, x1, x18 => if x18 = true then (some (0, 2)) else (rate_Power.l0 k x0 x1 1000000000000 0)
def rate_Power.l0 : Nat → Int → Int → Int → Int → Option (Int × Int)
  | 0, _, _, _, _ => none
  | k + 1, x0, x1, x6, x7 => if x1 > 0 then (if x7 = 0 then ((rate_over_rate_forth.f k x6 x0).bind fun bt146 => (rate_Power.l0 k x0 (wrap64 (x1 - 1)) bt146.1 bt146.2)) else (some (x6, x7))) else (some (x6, x7))
end
def rate_Power.f (k : Nat) (a0 : Int) (a1 : Int) : Option (Int × Int) := (rate_May.f a0).bind fun t145 => (if t145 = true then (if a1 < 0 then (rate_Power.j0 k a0 a1 true) else (rate_Power.j0 k a0 a1 (decide (a1 > 600)))) else (rate_Power.j0 k a0 a1 true))
theorem rate_Power.mono_l : ∀ k, (∀ y0 y1 y2, LeO (rate_Power.j0 k y0 y1 y2) (rate_Power.j0 (k + 1) y0 y1 y2)) ∧ (∀ y0 y1 y2 y3, LeO (rate_Power.l0 k y0 y1 y2 y3) (rate_Power.l0 (k + 1) y0 y1 y2 y3))
  | 0 => ⟨fun _ _ _ r h => by simp [rate_Power.j0] at h, fun _ _ _ _ r h => by simp [rate_Power.l0] at h⟩
  | k + 1 => by
    obtain ⟨ih0, ih1⟩ := rate_Power.mono_l k
    refine ⟨?_, ?_⟩
    · intro y0 y1 y2
      unfold rate_Power.j0
      repeat' first
      | (with_reducible exact ih0 _ _ _)
      | (with_reducible exact ih1 _ _ _ _)
      | (with_reducible exact rate_over_rate_forth.mono _ _ _)
      | (with_reducible exact LeO.refl _)
      | (with_reducible exact LeO.none _)
      | (with_reducible refine LeO.ite ?_ ?_)
      | (with_reducible refine LeO.bind ?_ (fun _ => ?_))
      | exact ih0 _ _ _
      | exact ih1 _ _ _ _
      | exact rate_over_rate_forth.mono _ _ _
      | exact LeO.none _
      | refine LeO.ite ?_ ?_
      | refine LeO.bind ?_ (fun _ => ?_)
    · intro y0 y1 y2 y3
      unfold rate_Power.l0
      repeat' first
      | (with_reducible exact ih0 _ _ _)
      | (with_reducible exact ih1 _ _ _ _)
      | (with_reducible exact rate_over_rate_forth.mono _ _ _)
      | (with_reducible exact LeO.refl _)
      | (with_reducible exact LeO.none _)
      | (with_reducible refine LeO.ite ?_ ?_)
      | (with_reducible refine LeO.bind ?_ (fun _ => ?_))
      | exact ih0 _ _ _
      | exact ih1 _ _ _ _
      | exact rate_over_rate_forth.mono _ _ _
      | exact LeO.none _
      | refine LeO.ite ?_ ?_
      | refine LeO.bind ?_ (fun _ => ?_)
theorem rate_Power.mono : ∀ a0 a1 k, LeO (rate_Power.f k a0 a1) (rate_Power.f (k + 1) a0 a1) := by
  intro a0 a1 k
  obtain ⟨ih0, ih1⟩ := rate_Power.mono_l k
  unfold rate_Power.f
  repeat' first
      | (with_reducible exact ih0 _ _ _)
      | (with_reducible exact ih1 _ _ _ _)
      | (with_reducible exact rate_over_rate_forth.mono _ _ _)
      | (with_reducible exact LeO.refl _)
      | (with_reducible exact LeO.none _)
      | (with_reducible refine LeO.ite ?_ ?_)
      | (with_reducible refine LeO.bind ?_ (fun _ => ?_))
      | exact ih0 _ _ _
      | exact ih1 _ _ _ _
      | exact rate_over_rate_forth.mono _ _ _
      | exact LeO.none _
      | refine LeO.ite ?_ ?_
      | refine LeO.bind ?_ (fun _ => ?_)
set_option maxHeartbeats 8000000 in
set_option maxRecDepth 100000 in
theorem rate_Power.calls (k : Nat) (a0 : Int) (a1 : Int) (r1 : Int) (r2 : Int) (w : World) (h : rate_Power.f k a0 a1 = some (r1, r2)) :
    Calls Try.prog 24 #[.int .i64 a0, .int .i64 a1] w fun e w' => e = .returned (.tuple #[.int .i64 r1, .int .i64 r2]) ∧ Below w.heap.size w w' := by
  have HB := Aside0.mk (Below.refl w.heap.size w)
  have H : ((rate_May.f a0).bind fun t145 => (if t145 = true then (if a1 < 0 then (rate_Power.j0 k a0 a1 true) else (rate_Power.j0 k a0 a1 (decide (a1 > 600)))) else (rate_Power.j0 k a0 a1 true))) = some (r1, r2) := h
  clear h
  have HC3 := Aside0.mk H
  clear H
  go_enter Try.func24, Try.ntmps24
  go_upto_region 1 with (fail)
  go_cut [18] (fun v18 wc => ∃ (kq : Nat) (x18_2 : Bool), v18 = .bool x18_2 ∧ Aside0 (rate_Power.j0 kq a0 a1 x18_2 = some (r1, r2)) ∧ Aside0 (kq ≤ k) ∧ Aside0 (Below w.heap.size w wc))
  case first =>
    have H := HC3.out
    clear HC3
    replace H := Option.bind_eq_some_iff.mp H
    obtain ⟨t145, A40, H⟩ := H
    replace H : (if t145 = true then (if a1 < 0 then (rate_Power.j0 k a0 a1 true) else (rate_Power.j0 k a0 a1 (decide (a1 > 600)))) else (rate_Power.j0 k a0 a1 true)) = some (r1, r2) := H
    have A4 := Aside0.mk A40
    clear A40
    by_cases c5 : t145 = true
    · subst c5
      have H1 : (if a1 < 0 then (rate_Power.j0 k a0 a1 true) else (rate_Power.j0 k a0 a1 (decide (a1 > 600)))) = some (r1, r2) := by rw [if_pos rfl] at H; exact H
      clear H
      have H := H1
      clear H1
      by_cases c6 : a1 < 0
      · rw [if_pos c6] at H
        have c6b0 : decide (a1 < 0) = true := decide_eq_true c6
        clear c6
        (first | rw [c6b0] | (simp only [i64_w, i32_w]; rw [c6b0]) | skip)
        have H' := Aside0.mk H
        clear H
        go_wp2_with (first | ((with_reducible refine gate_callee (f := 21) rfl ?_); refine goesL_ (some 9) rfl rfl Try.func21 (by kernel_rfl) rfl #[.int .i64 a0] rfl (by (try simp only [List.map_toArray, List.map_cons, List.map_nil]); first | done | rfl | (simp only [List.length_drop, List.length_take]; rfl)) ?_; (with_reducible refine (rate_May.calls a0 true _ A4.out).mono ?_); rintro e w' ⟨rfl, ⟨nd, rfl⟩⟩; refine ⟨_, rfl, ?_⟩))
        go_meet
        case rel => exact ⟨_, (true), (by first | rfl | (simp; done) | (simp [*]; done)), H', ⟨by first | omega | exact Nat.le_refl _⟩, ⟨by repeat (first | (with_reducible first | exact HB.out | apply below_alloc | apply pw_below_drewN | apply below_drew1) | exact HB.out)⟩⟩
      · rw [if_neg c6] at H
        have c6b0 : decide (a1 < 0) = false := decide_eq_false c6
        clear c6
        (first | rw [c6b0] | (simp only [i64_w, i32_w]; rw [c6b0]) | skip)
        have H' := Aside0.mk H
        clear H
        go_wp2_with (first | ((with_reducible refine gate_callee (f := 21) rfl ?_); refine goesL_ (some 9) rfl rfl Try.func21 (by kernel_rfl) rfl #[.int .i64 a0] rfl (by (try simp only [List.map_toArray, List.map_cons, List.map_nil]); first | done | rfl | (simp only [List.length_drop, List.length_take]; rfl)) ?_; (with_reducible refine (rate_May.calls a0 true _ A4.out).mono ?_); rintro e w' ⟨rfl, ⟨nd, rfl⟩⟩; refine ⟨_, rfl, ?_⟩))
        go_meet
        case rel => exact ⟨_, (decide (a1 > 600)), (by first | rfl | (simp; done) | (simp [*]; done)), H', ⟨by first | omega | exact Nat.le_refl _⟩, ⟨by repeat (first | (with_reducible first | exact HB.out | apply below_alloc | apply pw_below_drewN | apply below_drew1) | exact HB.out)⟩⟩
    · replace c5 := Bool.eq_false_iff.mpr c5
      subst c5
      have H1 : (rate_Power.j0 k a0 a1 true) = some (r1, r2) := by rw [if_neg (show ¬ (false = true) by decide)] at H; exact H
      clear H
      have H := H1
      clear H1
      have H' := Aside0.mk H
      clear H
      go_wp2_with (first | ((with_reducible refine gate_callee (f := 21) rfl ?_); refine goesL_ (some 9) rfl rfl Try.func21 (by kernel_rfl) rfl #[.int .i64 a0] rfl (by (try simp only [List.map_toArray, List.map_cons, List.map_nil]); first | done | rfl | (simp only [List.length_drop, List.length_take]; rfl)) ?_; (with_reducible refine (rate_May.calls a0 false _ A4.out).mono ?_); rintro e w' ⟨rfl, ⟨nd, rfl⟩⟩; refine ⟨_, rfl, ?_⟩))
      go_meet
      case rel => exact ⟨_, (true), (by first | rfl | (simp; done) | (simp [*]; done)), H', ⟨by first | omega | exact Nat.le_refl _⟩, ⟨by repeat (first | (with_reducible first | exact HB.out | apply below_alloc | apply pw_below_drewN | apply below_drew1) | exact HB.out)⟩⟩
  case rest =>
    clear HC3
    try clear c2
    try clear p2
    try clear c5
    try clear c6
    try clear c6b0
    obtain ⟨kq, x18_2, rfl, HA, HJ2, HB⟩ := hcut
    cases kq with
    | zero => exact absurd HA.out (by simp [rate_Power.j0])
    | succ kj2 =>
      have H := HA.out
      clear HA
      simp only [rate_Power.j0] at H
      by_cases c7 : x18_2 = true
      · subst c7
        have H1 : (some (0, 2)) = some (r1, r2) := by rw [if_pos rfl] at H; exact H
        clear H
        have H := H1
        clear H1
        simp only [Option.some.injEq, Prod.mk.injEq] at H
        obtain ⟨rfl, rfl⟩ := H
        go_wp2
        go_ret2
        exact ⟨by first | rfl | (simp [errW_none, errW_some] <;> rfl) | (simp [*, errW_none, errW_some] <;> rfl), by repeat (first | (with_reducible first | exact HB.out | apply below_alloc | apply pw_below_drewN | apply below_drew1) | exact HB.out)⟩
      · replace c7 := Bool.eq_false_iff.mpr c7
        subst c7
        have H1 : (rate_Power.l0 kj2 a0 a1 1000000000000 0) = some (r1, r2) := by rw [if_neg (show ¬ (false = true) by decide)] at H; exact H
        clear H
        have H := H1
        clear H1
        have H' := Aside0.mk H
        clear H
        go_wp2
        go_loopg [1, 6, 7] kj2 (fun kq v1 v6 v7 w' => ∃ (x1_2 : Int) (x6_2 : Int) (x7_2 : Int), v1 = .int .i64 x1_2 ∧ v6 = .int .i64 x6_2 ∧ v7 = .int .i64 x7_2 ∧ Aside0 (rate_Power.l0 kq a0 x1_2 x6_2 x7_2 = some (r1, r2)) ∧ Aside0 (kq ≤ kj2) ∧ Aside0 (Below w.heap.size w w'))
        case atStart => exact ⟨(a1), (1000000000000), (0), (by first | rfl | (simp; done) | (simp [*]; done)), (by first | rfl | (simp; done) | (simp [*]; done)), (by first | rfl | (simp; done) | (simp [*]; done)), H', ⟨Nat.le_refl _⟩, ⟨by repeat (first | (with_reducible first | exact HB.out | apply below_alloc | apply pw_below_drewN | apply below_drew1) | exact HB.out)⟩⟩
        case round =>
          clear H'
          try clear c2
          try clear p2
          try clear c5
          try clear c6
          try clear c6b0
          try clear c7
          try clear p2
          obtain ⟨x1_2, x6_2, x7_2, rfl, rfl, rfl, HA, HK2, HB⟩ := hrel
          cases gk with
          | zero => exact absurd HA.out (by simp [rate_Power.l0])
          | succ k2 =>
            have H := HA.out
            clear HA
            simp only [rate_Power.l0] at H
            by_cases c8 : x1_2 > 0
            · rw [if_pos c8] at H
              have c8b0 : decide (0 < x1_2) = true := decide_eq_true c8
              clear c8
              by_cases c9 : x7_2 = 0
              · rw [if_pos c9] at H
                have c9b0 : (x7_2 == 0) = true := beq_iff_eq.mpr c9
                have c9b1 : (x7_2 != 0) = false := bne_eq_false_iff_eq.mpr c9
                clear c9
                replace H := Option.bind_eq_some_iff.mp H
                obtain ⟨⟨t146, t147⟩, A100, H⟩ := H
                replace H : (rate_Power.l0 k2 a0 (wrap64 (x1_2 - 1)) t146 t147) = some (r1, r2) := H
                have A10 := Aside0.mk A100
                clear A100
                have H' := Aside0.mk H
                clear H
                go_wp2_with (first | ((with_reducible refine gate_callee (f := 38) rfl ?_); refine goesL_ (some 30) rfl rfl Try.func38 (by kernel_rfl) rfl #[.int .i64 x6_2, .int .i64 a0] rfl (by (try simp only [List.map_toArray, List.map_cons, List.map_nil]); first | done | rfl | (simp only [List.length_drop, List.length_take]; rfl)) ?_; (with_reducible refine (rate_over_rate_forth.calls k2 x6_2 a0 t146 t147 _ A10.out).mono ?_); rintro e w11 ⟨rfl, hb⟩; refine ⟨_, rfl, ?_⟩; have n0_ := Aside0.mk (below_step (by repeat (first | (with_reducible first | exact HB.out | apply below_alloc | apply pw_below_drewN | apply below_drew1) | exact HB.out)) hb); clear HB; have HB := n0_; clear n0_; (try clear hb); (try clear hb2); (try clear hk); (try clear hi)))
                go_roundg k2
                case measure => have := HJ2.out; have := HK2.out; omega
                case rel => exact ⟨(wrap64 (x1_2 - 1)), (t146), (t147), (by first | rfl | (simp; done) | (simp [*]; done)), (by first | rfl | (simp; done) | (simp [*]; done)), (by first | rfl | (simp; done) | (simp [*]; done)), H', ⟨by have := HJ2.out; have := HK2.out; omega⟩, ⟨by repeat (first | (with_reducible first | exact HB.out | apply below_alloc | apply pw_below_drewN | apply below_drew1) | exact HB.out)⟩⟩
              · rw [if_neg c9] at H
                have c9b0 : (x7_2 == 0) = false := beq_eq_false_iff_ne.mpr c9
                have c9b1 : (x7_2 != 0) = true := bne_iff_ne.mpr c9
                simp only [Option.some.injEq, Prod.mk.injEq] at H
                obtain ⟨rfl, rfl⟩ := H
                go_wp2
                go_ret2
                exact ⟨by first | rfl | (simp [errW_none, errW_some] <;> rfl) | (simp [*, errW_none, errW_some] <;> rfl), by repeat (first | (with_reducible first | exact HB.out | apply below_alloc | apply pw_below_drewN | apply below_drew1) | exact HB.out)⟩
            · rw [if_neg c8] at H
              have c8b0 : decide (0 < x1_2) = false := decide_eq_false c8
              clear c8
              simp only [Option.some.injEq, Prod.mk.injEq] at H
              obtain ⟨rfl, rfl⟩ := H
              go_wp2
              go_ret2
              exact ⟨by first | rfl | (simp [errW_none, errW_some] <;> rfl) | (simp [*, errW_none, errW_some] <;> rfl), by repeat (first | (with_reducible first | exact HB.out | apply below_alloc | apply pw_below_drewN | apply below_drew1) | exact HB.out)⟩

end Go.Proofs.Ytioicmialbimfaa.S
end

section
namespace Go.Proofs.Ytioicmialbimfaa.XRate
set_option linter.unusedVariables false
set_option linter.unusedSimpArgs false
open Go.RowKit Go.Proofs.Ytioicmialbimfaa.S Go.Proofs.Ytioicmialbimfaa.XNum Go.Proofs.Ytioicmialbimfaa.XBits Go.Proofs.Ytioicmialbimfaa.XWide Go.Proofs.Ytioicmialbimfaa.Rnd Go.Proofs.Ytioicmialbimfaa.XMdiv Go.Proofs.YtioicmialbimfaaW.PrintWords

/-- may a rate be? -/
def mayR (r : Int) : Prop := -990000000000 ≤ r ∧ r ≤ 10000000000000
instance (r : Int) : Decidable (mayR r) := inferInstanceAs (Decidable (_ ∧ _))
theorem may (r : Int) : rate_May.f r = some (decide (mayR r)) := by
  unfold rate_May.f
  by_cases c : mayR r
  · rw [decide_eq_true c]
    unfold mayR at c
    rw [if_pos (by omega), decide_eq_true (by omega)]
  · rw [decide_eq_false c]
    unfold mayR at c
    by_cases d : r ≥ -990000000000
    · rw [if_pos d, decide_eq_false (by omega)]
    · rw [if_neg d]

def interest (x r : Int) : Int × Int := if mayR r then mdiv (x * r) 1000000000000 1 else (0, 2)
def grow (x r : Int) : Int × Int := if mayR r then mdiv (x * (1000000000000 + r)) 1000000000000 1 else (0, 2)
def discount (x r : Int) : Int × Int := if mayR r then mdiv (x * 1000000000000) (1000000000000 + r) 1 else (0, 2)

theorem interest_f {x r : Int} (hx : I64 x) {k : Nat} (hk : 30 ≤ k) : rate_Interest.f k x r = some (interest x r) := by
  unfold rate_Interest.f rate_over_rate_yield.f rate_yield_terms.f
  rw [may]
  simp only [Option.bind_some]
  unfold interest
  by_cases c : mayR r
  · rw [decide_eq_true c, if_pos c]
    simp only [if_true]
    unfold mayR at c
    rw [mulDiv hx ⟨by omega, by omega⟩ ⟨by omega, by omega⟩ hk]
    simp only [Option.bind_some]
  · rw [decide_eq_false c, if_neg c]
    simp
theorem over_forth {x r : Int} (hx : I64 x) {k : Nat} (hk : 30 ≤ k) : rate_over_rate_forth.f k x r = some (grow x r) := by
  unfold rate_over_rate_forth.f rate_forth_terms.f
  rw [may]
  simp only [Option.bind_some]
  unfold grow
  by_cases c : mayR r
  · rw [decide_eq_true c, if_pos c]
    simp only [if_true]
    unfold mayR at c
    rw [w64 (by omega) (by omega), mulDiv hx ⟨by omega, by omega⟩ ⟨by omega, by omega⟩ hk]
    simp only [Option.bind_some]
  · rw [decide_eq_false c, if_neg c]
    simp
theorem grow_f {x r : Int} (hx : I64 x) {k : Nat} (hk : 30 ≤ k) : rate_Grow.f k x r = some (grow x r) := by
  unfold rate_Grow.f
  rw [over_forth hx hk]
  rfl
theorem discount_f {x r : Int} (hx : I64 x) {k : Nat} (hk : 30 ≤ k) : rate_Discount.f k x r = some (discount x r) := by
  unfold rate_Discount.f rate_over_rate_back.f rate_back_terms.f
  rw [may]
  simp only [Option.bind_some]
  unfold discount
  by_cases c : mayR r
  · rw [decide_eq_true c, if_pos c]
    simp only [if_true]
    unfold mayR at c
    rw [w64 (by omega) (by omega), mulDiv hx ⟨by omega, by omega⟩ ⟨by omega, by omega⟩ hk]
    simp only [Option.bind_some]
  · rw [decide_eq_false c, if_neg c]
    simp
theorem grow_i64 (x r : Int) : I64 (grow x r).1 := by
  unfold grow
  split
  · exact mdiv_i64 _ _ _
  · exact ⟨by omega, by omega⟩
theorem discount_i64 (x r : Int) : I64 (discount x r).1 := by
  unfold discount
  split
  · exact mdiv_i64 _ _ _
  · exact ⟨by omega, by omega⟩
theorem interest_i64 (x r : Int) : I64 (interest x r).1 := by
  unfold interest
  split
  · exact mdiv_i64 _ _ _
  · exact ⟨by omega, by omega⟩

/-- a part of a rate -/
def part (r o all : Int) : Int × Int := if o < 0 ∨ all ≤ 0 then (0, 2) else mdiv (r * o) all 1
theorem part_f {r o all : Int} (hr : I64 r) (ho : I64 o) (ha : I64 all) {k : Nat} (hk : 30 ≤ k) : rate_Part.f k r o all = some (part r o all) := by
  unfold rate_Part.f part
  by_cases c : o < 0
  · rw [if_pos c, if_pos (.inl c)]
  · rw [if_neg c]
    by_cases d : all ≤ 0
    · rw [if_pos d, if_pos (.inr d)]
    · rw [if_neg d, if_neg (by omega), mulDiv hr ho ha hk]
      rfl

/-- what an amount grows to in n periods, or the first error -/
def powers (r : Int) : Nat → Int × Int
  | 0 => (1000000000000, 0)
  | n + 1 => if (powers r n).2 = 0 then grow (powers r n).1 r else powers r n
theorem powers_i64 (r : Int) (n : Nat) : I64 (powers r n).1 := by
  induction n with
  | zero => exact ⟨by show (-9223372036854775808 : Int) ≤ 1000000000000; omega, by show (1000000000000 : Int) ≤ 9223372036854775807; omega⟩
  | succ n ih =>
    unfold powers
    split
    · exact grow_i64 _ _
    · exact ih
/-- an error stays -/
theorem powers_err (r : Int) {n : Nat} (h : (powers r n).2 ≠ 0) : ∀ m, powers r (n + m) = powers r n
  | 0 => rfl
  | m + 1 => by
    rw [← Nat.add_assoc, powers, powers_err r h m, if_neg h]
theorem power_l0 {r : Int} : ∀ (d j k : Nat), d ≤ 600 → d + 40 ≤ k → rate_Power.l0 k r d (powers r j).1 (powers r j).2 = some (powers r (j + d)) := by
  intro d
  induction d with
  | zero =>
    intro j k hd hk
    obtain ⟨k, rfl⟩ : ∃ m, k = m + 1 := ⟨k - 1, by omega⟩
    rw [rate_Power.l0, if_neg (by omega)]
    rfl
  | succ d ih =>
    intro j k hd hk
    obtain ⟨k, rfl⟩ : ∃ m, k = m + 1 := ⟨k - 1, by omega⟩
    rw [rate_Power.l0, if_pos (by omega)]
    by_cases c : (powers r j).2 = 0
    · rw [if_pos c, over_forth (powers_i64 r j) (by omega)]
      simp only [Option.bind_some]
      have e : grow (powers r j).1 r = powers r (j + 1) := by rw [powers, if_pos c]
      rw [e, w64 (by omega) (by omega), show ((d + 1 : Nat) : Int) - 1 = (d : Int) by omega, ih (j + 1) k (by omega) (by omega), show j + 1 + d = j + (d + 1) by omega]
    · rw [if_neg c, powers_err r c]
def power (r n : Int) : Int × Int := if mayR r ∧ 0 ≤ n ∧ n ≤ 600 then powers r n.toNat else (0, 2)
theorem power_ok {r n : Int} (h : mayR r) (h0 : 0 ≤ n) (h1 : n ≤ 600) : power r n = powers r n.toNat := by
  unfold power
  rw [if_pos ⟨h, h0, h1⟩]
theorem power_no {r n : Int} (h : ¬mayR r) : power r n = (0, 2) := by
  unfold power
  rw [if_neg (fun g => h g.1)]
theorem power_f {r n : Int} {k : Nat} (hk : 700 ≤ k) : rate_Power.f k r n = some (power r n) := by
  obtain ⟨k, rfl⟩ : ∃ m, k = m + 1 := ⟨k - 1, by omega⟩
  unfold rate_Power.f power
  rw [may]
  simp only [Option.bind_some]
  by_cases c : mayR r
  · rw [decide_eq_true c]
    simp only [if_true]
    by_cases d : n < 0
    · rw [if_pos d, rate_Power.j0, if_pos rfl, if_neg (by omega)]
    · rw [if_neg d]
      by_cases e : n > 600
      · rw [decide_eq_true e, rate_Power.j0, if_pos rfl, if_neg (by omega)]
      · rw [decide_eq_false e, rate_Power.j0, if_neg (by simp), if_pos ⟨c, by omega, by omega⟩]
        have := power_l0 (r := r) n.toNat 0 k (by omega) (by omega)
        rw [Nat.zero_add, show ((n.toNat : Nat) : Int) = n by omega] at this
        exact this
  · rw [decide_eq_false c, if_neg (c := mayR r ∧ _) (fun h => c h.1)]
    simp only [Bool.false_eq_true, if_false]
    rw [rate_Power.j0, if_pos rfl]
end Go.Proofs.Ytioicmialbimfaa.XRate
end

section
namespace Go.Proofs.Ytioicmialbimfaa.XRef02
set_option linter.unusedVariables false
set_option linter.unusedSimpArgs false
open Go.RowKit Go.Proofs.Ytioicmialbimfaa.S Go.Proofs.Ytioicmialbimfaa.XNum Go.Proofs.Ytioicmialbimfaa.XWide Go.Proofs.Ytioicmialbimfaa.Rnd Go.Proofs.YtioicmialbimfaaW.PrintWords

theorem up_eq (way : Int) (L : Bool) (N D : Nat) : lombardref02_div.up way L N D = upf way N D L := by
  have e1 : ((N % D : Nat) : Int) = (N : Int) % D := Int.natCast_emod N D
  have e2 : ((N / D : Nat) : Int) = (N : Int) / D := Int.natCast_ediv N D
  unfold lombardref02_div.up upf
  rw [← e1, ← e2]
  by_cases c : way = 0
  · rw [if_pos c, if_pos c]
    congr 1
    exact decide_eq_decide.2 (by omega)
  · rw [if_neg c, if_neg c, Bool.eq_iff_iff]
    simp only [Bool.or_eq_true, Bool.and_eq_true, decide_eq_true_iff]
    omega
theorem Q_eq (way : Int) (L : Bool) (N D : Nat) : ((lombardref02_div.Q way L N D : Nat) : Int) = (N : Int) / D + if upf way N D L = true then 1 else 0 := by
  have e2 : ((N / D : Nat) : Int) = (N : Int) / D := Int.natCast_ediv N D
  unfold lombardref02_div.Q
  rw [up_eq, ← e2]
  split <;> omega
theorem told (way : Int) (L : Bool) (N D : Nat) : (lombardref02_div.r way L N D, lombardref02_div.e way L N D) = toldQ ((lombardref02_div.Q way L N D : Nat) : Int) L := by
  have e : (2 : Nat) ^ 63 = 9223372036854775808 := by decide
  unfold lombardref02_div.r lombardref02_div.e lombardref02_small.v lombardref02_small.ok toldQ
  rw [e]
  generalize lombardref02_div.Q way L N D = Q
  cases L
  · by_cases c : Q < 9223372036854775808
    · have z : ¬(9223372036854775808 < Q ∨ Q = 9223372036854775808 ∧ false = false) := by
        intro h
        rcases h with h | h <;> omega
      rw [if_neg z, if_neg z, if_pos rfl, if_pos rfl, if_neg (by simp), if_neg (by simp), if_pos (by omega)]
    · have z : 9223372036854775808 < Q ∨ Q = 9223372036854775808 ∧ false = false := by
        by_cases d : Q = 9223372036854775808
        · exact .inr ⟨d, rfl⟩
        · exact .inl (by omega)
      rw [if_pos z, if_neg (by simp), if_neg (by simp), if_neg (by simp), if_neg (by omega)]
  · by_cases c : Q ≤ 9223372036854775808
    · have z : ¬(9223372036854775808 < Q ∨ Q = 9223372036854775808 ∧ true = false) := by
        intro h
        rcases h with h | h
        · omega
        · exact absurd h.2 (by simp)
      rw [if_neg z, if_neg z, if_pos rfl, if_pos rfl, if_pos rfl, if_pos rfl, if_pos (by omega)]
    · have z : 9223372036854775808 < Q ∨ Q = 9223372036854775808 ∧ true = false := .inl (by omega)
      rw [if_pos z, if_neg (by simp), if_neg (by simp), if_pos rfl, if_neg (by omega)]
theorem zero {way y : Int} (hy : 0 < y) (L : Bool) : toldQ (0 / y + if upf way 0 y L = true then 1 else 0) L = (0, 0) := by
  have u : upf way 0 y L = false := by
    unfold upf
    rw [Int.zero_emod, Int.zero_ediv]
    split
    · simp
    · exact decide_eq_false (by omega)
  rw [u, Int.zero_ediv]
  unfold toldQ
  cases L <;> simp
theorem v_eq {less : Bool} {N : Nat} {b way : Int} : lombardref02_div.v less N b way = mdiv (if less = true then -(N : Int) else N) b way := by
  unfold lombardref02_div.v
  by_cases c : way ≠ 0 ∧ way ≠ 1
  · rw [if_pos c]
    unfold mdiv
    rw [if_pos (by omega)]
  · rw [if_neg c]
    by_cases z : b = 0
    · rw [if_pos z]
      unfold mdiv
      rw [if_neg (by omega), if_pos z]
    · rw [if_neg z, told, Q_eq]
      have hw : way = 0 ∨ way = 1 := by omega
      have hy : ((b.natAbs : Nat) : Int) = if b < 0 then -b else b := by split <;> omega
      have y0 : (0 : Int) < (b.natAbs : Nat) := by omega
      by_cases n0 : N = 0
      · subst n0
        have t := told_rnd (A := 0) (b := b) (way := way) (X := 0) (y := (b.natAbs : Nat)) hw z (by simp) hy
        rw [zero y0] at t
        have w : (if less = true then -((0 : Nat) : Int) else ((0 : Nat) : Int)) = 0 := by split <;> rfl
        rw [w, ← t]
        exact zero y0 _
      · have A0 : decide ((if less = true then -(N : Int) else (N : Int)) < 0) = less := by
          cases less
          · rw [if_neg (by simp)]
            exact decide_eq_false (by omega)
          · rw [if_pos rfl]
            exact decide_eq_true (by omega)
        have t := told_rnd (A := if less = true then -(N : Int) else (N : Int)) (b := b) (way := way) (X := N) (y := (b.natAbs : Nat)) hw z (by
          cases less
          · rw [if_neg (c := false = true) (by simp), if_neg (by omega)]
          · rw [if_pos (c := true = true) rfl, if_pos (by omega), Int.neg_neg]) hy
        rw [A0] at t
        exact t
theorem mulDiv {a b c way : Int} (ha : I64 a) (hb : I64 b) (hc : I64 c) : lombardref02_MulDiv.f a b c way = some (mdiv (a * b) c way) := by
  unfold lombardref02_MulDiv.f
  rw [if_pos ⟨ha.1, ha.2, hb.1, hb.2, hc.1, hc.2⟩, v_eq]
  congr 2
  have h1 : ((a.natAbs : Nat) : Int) = if a < 0 then -a else a := by split <;> omega
  have h2 : ((b.natAbs : Nat) : Int) = if b < 0 then -b else b := by split <;> omega
  rw [Int.natCast_mul, h1, h2]
  by_cases x : a < 0 <;> by_cases y : b < 0 <;> simp [x, y, Int.neg_mul, Int.mul_neg]
end Go.Proofs.Ytioicmialbimfaa.XRef02
end

section
namespace Go.Proofs.Ytioicmialbimfaa.S
open Go.RowKit Go.Proofs.YtioicmialbimfaaW.PrintWords Go.Proofs.YtioicmialbimfaaW.PrintLast Go.Proofs.YtioicmialbimfaaW.PrintMore
attribute [local go_sem] max2_int min2_int max_two min_two max_three min_three max_four min_four   -- for this text's walks alone
attribute [local go_sem] Go.Proofs.Ytioicmialbimfaa.XWalk.cell2
set_option linter.unusedVariables false
set_option linter.unusedSimpArgs false

/-! ### lombardref03_Grow: function 18 -/
def lombardref03_Grow.f (a0 : Int) (a1 : Int) : Option (Int × Int) := (lombardref03_May.f a1).bind fun t162 => (if t162 = true then ((lombardref03_near.f a1 a0 (wrap64 (1000000000000 + a1)) 1000000000000).bind fun bt163 => (some (bt163.1, bt163.2))) else (some (0, 2)))
set_option maxHeartbeats 8000000 in
set_option maxRecDepth 100000 in
theorem lombardref03_Grow.calls (a0 : Int) (a1 : Int) (r1 : Int) (r2 : Int) (w : World) (h : lombardref03_Grow.f a0 a1 = some (r1, r2)) :
    Calls Try.prog 18 #[.int .i64 a0, .int .i64 a1] w fun e w' => e = .returned (.tuple #[.int .i64 r1, .int .i64 r2]) ∧ Below w.heap.size w w' := by
  have HB := Aside0.mk (Below.refl w.heap.size w)
  have H : ((lombardref03_May.f a1).bind fun t162 => (if t162 = true then ((lombardref03_near.f a1 a0 (wrap64 (1000000000000 + a1)) 1000000000000).bind fun bt163 => (some (bt163.1, bt163.2))) else (some (0, 2)))) = some (r1, r2) := h
  clear h
  replace H := Option.bind_eq_some_iff.mp H
  obtain ⟨t162, A30, H⟩ := H
  replace H : (if t162 = true then ((lombardref03_near.f a1 a0 (wrap64 (1000000000000 + a1)) 1000000000000).bind fun bt163 => (some (bt163.1, bt163.2))) else (some (0, 2))) = some (r1, r2) := H
  have A3 := Aside0.mk A30
  clear A30
  by_cases c4 : t162 = true
  · subst c4
    have H1 : ((lombardref03_near.f a1 a0 (wrap64 (1000000000000 + a1)) 1000000000000).bind fun bt163 => (some (bt163.1, bt163.2))) = some (r1, r2) := by rw [if_pos rfl] at H; exact H
    clear H
    have H := H1
    clear H1
    replace H := Option.bind_eq_some_iff.mp H
    obtain ⟨⟨t163, t164⟩, A50, H⟩ := H
    replace H : (some (t163, t164)) = some (r1, r2) := H
    have A5 := Aside0.mk A50
    clear A50
    simp only [Option.some.injEq, Prod.mk.injEq] at H
    obtain ⟨rfl, rfl⟩ := H
    go_enter Try.func18, Try.ntmps18
    go_wp2_with (first | ((with_reducible refine gate_callee (f := 22) rfl ?_); refine goesL_ (some 7) rfl rfl Try.func22 (by kernel_rfl) rfl #[.int .i64 a1] rfl (by (try simp only [List.map_toArray, List.map_cons, List.map_nil]); first | done | rfl | (simp only [List.length_drop, List.length_take]; rfl)) ?_; (with_reducible refine (lombardref03_May.calls a1 true _ A3.out).mono ?_); rintro e w' ⟨rfl, ⟨nd, rfl⟩⟩; refine ⟨_, rfl, ?_⟩) | ((with_reducible refine gate_callee (f := 37) rfl ?_); refine goesL_ (some 13) rfl rfl Try.func37 (by kernel_rfl) rfl #[.int .i64 a1, .int .i64 a0, .int .i64 (wrap64 (1000000000000 + a1)), .int .i64 1000000000000] rfl (by (try simp only [List.map_toArray, List.map_cons, List.map_nil]); first | done | rfl | (simp only [List.length_drop, List.length_take]; rfl)) ?_; (with_reducible refine (lombardref03_near.calls a1 a0 (wrap64 (1000000000000 + a1)) 1000000000000 t163 t164 _ A5.out).mono ?_); rintro e w6 ⟨rfl, hb⟩; refine ⟨_, rfl, ?_⟩; have n0_ := Aside0.mk (below_step (by repeat (first | (with_reducible first | exact HB.out | apply below_alloc | apply pw_below_drewN | apply below_drew1) | exact HB.out)) hb); clear HB; have HB := n0_; clear n0_; (try clear hb); (try clear hb2); (try clear hk); (try clear hi)))
    go_ret2
    exact ⟨by first | rfl | (simp [errW_none, errW_some] <;> rfl) | (simp [*, errW_none, errW_some] <;> rfl), by repeat (first | (with_reducible first | exact HB.out | apply below_alloc | apply pw_below_drewN | apply below_drew1) | exact HB.out)⟩
  · replace c4 := Bool.eq_false_iff.mpr c4
    subst c4
    have H1 : (some (0, 2)) = some (r1, r2) := by rw [if_neg (show ¬ (false = true) by decide)] at H; exact H
    clear H
    have H := H1
    clear H1
    simp only [Option.some.injEq, Prod.mk.injEq] at H
    obtain ⟨rfl, rfl⟩ := H
    go_enter Try.func18, Try.ntmps18
    go_wp2_with (first | ((with_reducible refine gate_callee (f := 22) rfl ?_); refine goesL_ (some 7) rfl rfl Try.func22 (by kernel_rfl) rfl #[.int .i64 a1] rfl (by (try simp only [List.map_toArray, List.map_cons, List.map_nil]); first | done | rfl | (simp only [List.length_drop, List.length_take]; rfl)) ?_; (with_reducible refine (lombardref03_May.calls a1 false _ A3.out).mono ?_); rintro e w' ⟨rfl, ⟨nd, rfl⟩⟩; refine ⟨_, rfl, ?_⟩))
    go_ret2
    exact ⟨by first | rfl | (simp [errW_none, errW_some] <;> rfl) | (simp [*, errW_none, errW_some] <;> rfl), by repeat (first | (with_reducible first | exact HB.out | apply below_alloc | apply pw_below_drewN | apply below_drew1) | exact HB.out)⟩

end Go.Proofs.Ytioicmialbimfaa.S
end

section
namespace Go.Proofs.Ytioicmialbimfaa.S
open Go.RowKit Go.Proofs.YtioicmialbimfaaW.PrintWords Go.Proofs.YtioicmialbimfaaW.PrintLast Go.Proofs.YtioicmialbimfaaW.PrintMore
attribute [local go_sem] max2_int min2_int max_two min_two max_three min_three max_four min_four   -- for this text's walks alone
attribute [local go_sem] Go.Proofs.Ytioicmialbimfaa.XWalk.cell2
set_option linter.unusedVariables false
set_option linter.unusedSimpArgs false

/-! ### lombardref03_Discount: function 20 -/
def lombardref03_Discount.f (a0 : Int) (a1 : Int) : Option (Int × Int) := (lombardref03_May.f a1).bind fun t165 => (if t165 = true then ((lombardref03_near.f a1 a0 1000000000000 (wrap64 (1000000000000 + a1))).bind fun bt166 => (some (bt166.1, bt166.2))) else (some (0, 2)))
set_option maxHeartbeats 8000000 in
set_option maxRecDepth 100000 in
theorem lombardref03_Discount.calls (a0 : Int) (a1 : Int) (r1 : Int) (r2 : Int) (w : World) (h : lombardref03_Discount.f a0 a1 = some (r1, r2)) :
    Calls Try.prog 20 #[.int .i64 a0, .int .i64 a1] w fun e w' => e = .returned (.tuple #[.int .i64 r1, .int .i64 r2]) ∧ Below w.heap.size w w' := by
  have HB := Aside0.mk (Below.refl w.heap.size w)
  have H : ((lombardref03_May.f a1).bind fun t165 => (if t165 = true then ((lombardref03_near.f a1 a0 1000000000000 (wrap64 (1000000000000 + a1))).bind fun bt166 => (some (bt166.1, bt166.2))) else (some (0, 2)))) = some (r1, r2) := h
  clear h
  replace H := Option.bind_eq_some_iff.mp H
  obtain ⟨t165, A30, H⟩ := H
  replace H : (if t165 = true then ((lombardref03_near.f a1 a0 1000000000000 (wrap64 (1000000000000 + a1))).bind fun bt166 => (some (bt166.1, bt166.2))) else (some (0, 2))) = some (r1, r2) := H
  have A3 := Aside0.mk A30
  clear A30
  by_cases c4 : t165 = true
  · subst c4
    have H1 : ((lombardref03_near.f a1 a0 1000000000000 (wrap64 (1000000000000 + a1))).bind fun bt166 => (some (bt166.1, bt166.2))) = some (r1, r2) := by rw [if_pos rfl] at H; exact H
    clear H
    have H := H1
    clear H1
    replace H := Option.bind_eq_some_iff.mp H
    obtain ⟨⟨t166, t167⟩, A50, H⟩ := H
    replace H : (some (t166, t167)) = some (r1, r2) := H
    have A5 := Aside0.mk A50
    clear A50
    simp only [Option.some.injEq, Prod.mk.injEq] at H
    obtain ⟨rfl, rfl⟩ := H
    go_enter Try.func20, Try.ntmps20
    go_wp2_with (first | ((with_reducible refine gate_callee (f := 22) rfl ?_); refine goesL_ (some 7) rfl rfl Try.func22 (by kernel_rfl) rfl #[.int .i64 a1] rfl (by (try simp only [List.map_toArray, List.map_cons, List.map_nil]); first | done | rfl | (simp only [List.length_drop, List.length_take]; rfl)) ?_; (with_reducible refine (lombardref03_May.calls a1 true _ A3.out).mono ?_); rintro e w' ⟨rfl, ⟨nd, rfl⟩⟩; refine ⟨_, rfl, ?_⟩) | ((with_reducible refine gate_callee (f := 37) rfl ?_); refine goesL_ (some 13) rfl rfl Try.func37 (by kernel_rfl) rfl #[.int .i64 a1, .int .i64 a0, .int .i64 1000000000000, .int .i64 (wrap64 (1000000000000 + a1))] rfl (by (try simp only [List.map_toArray, List.map_cons, List.map_nil]); first | done | rfl | (simp only [List.length_drop, List.length_take]; rfl)) ?_; (with_reducible refine (lombardref03_near.calls a1 a0 1000000000000 (wrap64 (1000000000000 + a1)) t166 t167 _ A5.out).mono ?_); rintro e w6 ⟨rfl, hb⟩; refine ⟨_, rfl, ?_⟩; have n0_ := Aside0.mk (below_step (by repeat (first | (with_reducible first | exact HB.out | apply below_alloc | apply pw_below_drewN | apply below_drew1) | exact HB.out)) hb); clear HB; have HB := n0_; clear n0_; (try clear hb); (try clear hb2); (try clear hk); (try clear hi)))
    go_ret2
    exact ⟨by first | rfl | (simp [errW_none, errW_some] <;> rfl) | (simp [*, errW_none, errW_some] <;> rfl), by repeat (first | (with_reducible first | exact HB.out | apply below_alloc | apply pw_below_drewN | apply below_drew1) | exact HB.out)⟩
  · replace c4 := Bool.eq_false_iff.mpr c4
    subst c4
    have H1 : (some (0, 2)) = some (r1, r2) := by rw [if_neg (show ¬ (false = true) by decide)] at H; exact H
    clear H
    have H := H1
    clear H1
    simp only [Option.some.injEq, Prod.mk.injEq] at H
    obtain ⟨rfl, rfl⟩ := H
    go_enter Try.func20, Try.ntmps20
    go_wp2_with (first | ((with_reducible refine gate_callee (f := 22) rfl ?_); refine goesL_ (some 7) rfl rfl Try.func22 (by kernel_rfl) rfl #[.int .i64 a1] rfl (by (try simp only [List.map_toArray, List.map_cons, List.map_nil]); first | done | rfl | (simp only [List.length_drop, List.length_take]; rfl)) ?_; (with_reducible refine (lombardref03_May.calls a1 false _ A3.out).mono ?_); rintro e w' ⟨rfl, ⟨nd, rfl⟩⟩; refine ⟨_, rfl, ?_⟩))
    go_ret2
    exact ⟨by first | rfl | (simp [errW_none, errW_some] <;> rfl) | (simp [*, errW_none, errW_some] <;> rfl), by repeat (first | (with_reducible first | exact HB.out | apply below_alloc | apply pw_below_drewN | apply below_drew1) | exact HB.out)⟩

end Go.Proofs.Ytioicmialbimfaa.S
end

section
namespace Go.Proofs.Ytioicmialbimfaa.S
open Go.RowKit Go.Proofs.YtioicmialbimfaaW.PrintWords Go.Proofs.YtioicmialbimfaaW.PrintLast Go.Proofs.YtioicmialbimfaaW.PrintMore
attribute [local go_sem] max2_int min2_int max_two min_two max_three min_three max_four min_four   -- for this text's walks alone
attribute [local go_sem] Go.Proofs.Ytioicmialbimfaa.XWalk.cell2
set_option linter.unusedVariables false
set_option linter.unusedSimpArgs false

/-! ### lombardref03_Power: function 25 -/
mutual
def lombardref03_Power.j0 : Nat → Int → Int → Bool → Option (Int × Int)
  | 0, _, _, _ => none
  | k + 1, x0, x1, x20 => if x20 = true then (some (0, 2)) else (lombardref03_Power.l0 k x0 x1 1000000000000 0)
def lombardref03_Power.l0 : Nat → Int → Int → Int → Int → Option (Int × Int)
  | 0, _, _, _, _ => none
  | k + 1, x0, x1, x6, x7 => if x7 < x1 then ((lombardref03_Grow.f x6 x0).bind fun bt246 => (if bt246.2 = 0 then (lombardref03_Power.l0 k x0 x1 bt246.1 (wrap64 (x7 + 1))) else (some (0, bt246.2)))) else (some (x6, 0))
end
def lombardref03_Power.f (k : Nat) (a0 : Int) (a1 : Int) : Option (Int × Int) := (lombardref03_May.f a0).bind fun t245 => (if t245 = true then (if a1 < 0 then (lombardref03_Power.j0 k a0 a1 true) else (lombardref03_Power.j0 k a0 a1 (decide (a1 > 600)))) else (lombardref03_Power.j0 k a0 a1 true))
theorem lombardref03_Power.mono_l : ∀ k, (∀ y0 y1 y2, LeO (lombardref03_Power.j0 k y0 y1 y2) (lombardref03_Power.j0 (k + 1) y0 y1 y2)) ∧ (∀ y0 y1 y2 y3, LeO (lombardref03_Power.l0 k y0 y1 y2 y3) (lombardref03_Power.l0 (k + 1) y0 y1 y2 y3))
  | 0 => ⟨fun _ _ _ r h => by simp [lombardref03_Power.j0] at h, fun _ _ _ _ r h => by simp [lombardref03_Power.l0] at h⟩
  | k + 1 => by
    obtain ⟨ih0, ih1⟩ := lombardref03_Power.mono_l k
    refine ⟨?_, ?_⟩
    · intro y0 y1 y2
      unfold lombardref03_Power.j0
      repeat' first
      | (with_reducible exact ih0 _ _ _)
      | (with_reducible exact ih1 _ _ _ _)
      | (with_reducible exact LeO.refl _)
      | (with_reducible exact LeO.none _)
      | (with_reducible refine LeO.ite ?_ ?_)
      | (with_reducible refine LeO.bind ?_ (fun _ => ?_))
      | exact ih0 _ _ _
      | exact ih1 _ _ _ _
      | exact LeO.none _
      | refine LeO.ite ?_ ?_
      | refine LeO.bind ?_ (fun _ => ?_)
    · intro y0 y1 y2 y3
      unfold lombardref03_Power.l0
      repeat' first
      | (with_reducible exact ih0 _ _ _)
      | (with_reducible exact ih1 _ _ _ _)
      | (with_reducible exact LeO.refl _)
      | (with_reducible exact LeO.none _)
      | (with_reducible refine LeO.ite ?_ ?_)
      | (with_reducible refine LeO.bind ?_ (fun _ => ?_))
      | exact ih0 _ _ _
      | exact ih1 _ _ _ _
      | exact LeO.none _
      | refine LeO.ite ?_ ?_
      | refine LeO.bind ?_ (fun _ => ?_)
theorem lombardref03_Power.mono : ∀ a0 a1 k, LeO (lombardref03_Power.f k a0 a1) (lombardref03_Power.f (k + 1) a0 a1) := by
  intro a0 a1 k
  obtain ⟨ih0, ih1⟩ := lombardref03_Power.mono_l k
  unfold lombardref03_Power.f
  repeat' first
      | (with_reducible exact ih0 _ _ _)
      | (with_reducible exact ih1 _ _ _ _)
      | (with_reducible exact LeO.refl _)
      | (with_reducible exact LeO.none _)
      | (with_reducible refine LeO.ite ?_ ?_)
      | (with_reducible refine LeO.bind ?_ (fun _ => ?_))
      | exact ih0 _ _ _
      | exact ih1 _ _ _ _
      | exact LeO.none _
      | refine LeO.ite ?_ ?_
      | refine LeO.bind ?_ (fun _ => ?_)
set_option maxHeartbeats 8000000 in
set_option maxRecDepth 100000 in
theorem lombardref03_Power.calls (k : Nat) (a0 : Int) (a1 : Int) (r1 : Int) (r2 : Int) (w : World) (h : lombardref03_Power.f k a0 a1 = some (r1, r2)) :
    Calls Try.prog 25 #[.int .i64 a0, .int .i64 a1] w fun e w' => e = .returned (.tuple #[.int .i64 r1, .int .i64 r2]) ∧ Below w.heap.size w w' := by
  have HB := Aside0.mk (Below.refl w.heap.size w)
  have H : ((lombardref03_May.f a0).bind fun t245 => (if t245 = true then (if a1 < 0 then (lombardref03_Power.j0 k a0 a1 true) else (lombardref03_Power.j0 k a0 a1 (decide (a1 > 600)))) else (lombardref03_Power.j0 k a0 a1 true))) = some (r1, r2) := h
  clear h
  have HC3 := Aside0.mk H
  clear H
  go_enter Try.func25, Try.ntmps25
  go_upto_region 1 with (fail)
  go_cut [20] (fun v20 wc => ∃ (kq : Nat) (x20_2 : Bool), v20 = .bool x20_2 ∧ Aside0 (lombardref03_Power.j0 kq a0 a1 x20_2 = some (r1, r2)) ∧ Aside0 (kq ≤ k) ∧ Aside0 (Below w.heap.size w wc))
  case first =>
    have H := HC3.out
    clear HC3
    replace H := Option.bind_eq_some_iff.mp H
    obtain ⟨t245, A40, H⟩ := H
    replace H : (if t245 = true then (if a1 < 0 then (lombardref03_Power.j0 k a0 a1 true) else (lombardref03_Power.j0 k a0 a1 (decide (a1 > 600)))) else (lombardref03_Power.j0 k a0 a1 true)) = some (r1, r2) := H
    have A4 := Aside0.mk A40
    clear A40
    by_cases c5 : t245 = true
    · subst c5
      have H1 : (if a1 < 0 then (lombardref03_Power.j0 k a0 a1 true) else (lombardref03_Power.j0 k a0 a1 (decide (a1 > 600)))) = some (r1, r2) := by rw [if_pos rfl] at H; exact H
      clear H
      have H := H1
      clear H1
      by_cases c6 : a1 < 0
      · rw [if_pos c6] at H
        have c6b0 : decide (a1 < 0) = true := decide_eq_true c6
        clear c6
        (first | rw [c6b0] | (simp only [i64_w, i32_w]; rw [c6b0]) | skip)
        have H' := Aside0.mk H
        clear H
        go_wp2_with (first | ((with_reducible refine gate_callee (f := 22) rfl ?_); refine goesL_ (some 11) rfl rfl Try.func22 (by kernel_rfl) rfl #[.int .i64 a0] rfl (by (try simp only [List.map_toArray, List.map_cons, List.map_nil]); first | done | rfl | (simp only [List.length_drop, List.length_take]; rfl)) ?_; (with_reducible refine (lombardref03_May.calls a0 true _ A4.out).mono ?_); rintro e w' ⟨rfl, ⟨nd, rfl⟩⟩; refine ⟨_, rfl, ?_⟩))
        go_meet
        case rel => exact ⟨_, (true), (by first | rfl | (simp; done) | (simp [*]; done)), H', ⟨by first | omega | exact Nat.le_refl _⟩, ⟨by repeat (first | (with_reducible first | exact HB.out | apply below_alloc | apply pw_below_drewN | apply below_drew1) | exact HB.out)⟩⟩
      · rw [if_neg c6] at H
        have c6b0 : decide (a1 < 0) = false := decide_eq_false c6
        clear c6
        (first | rw [c6b0] | (simp only [i64_w, i32_w]; rw [c6b0]) | skip)
        have H' := Aside0.mk H
        clear H
        go_wp2_with (first | ((with_reducible refine gate_callee (f := 22) rfl ?_); refine goesL_ (some 11) rfl rfl Try.func22 (by kernel_rfl) rfl #[.int .i64 a0] rfl (by (try simp only [List.map_toArray, List.map_cons, List.map_nil]); first | done | rfl | (simp only [List.length_drop, List.length_take]; rfl)) ?_; (with_reducible refine (lombardref03_May.calls a0 true _ A4.out).mono ?_); rintro e w' ⟨rfl, ⟨nd, rfl⟩⟩; refine ⟨_, rfl, ?_⟩))
        go_meet
        case rel => exact ⟨_, (decide (a1 > 600)), (by first | rfl | (simp; done) | (simp [*]; done)), H', ⟨by first | omega | exact Nat.le_refl _⟩, ⟨by repeat (first | (with_reducible first | exact HB.out | apply below_alloc | apply pw_below_drewN | apply below_drew1) | exact HB.out)⟩⟩
    · replace c5 := Bool.eq_false_iff.mpr c5
      subst c5
      have H1 : (lombardref03_Power.j0 k a0 a1 true) = some (r1, r2) := by rw [if_neg (show ¬ (false = true) by decide)] at H; exact H
      clear H
      have H := H1
      clear H1
      have H' := Aside0.mk H
      clear H
      go_wp2_with (first | ((with_reducible refine gate_callee (f := 22) rfl ?_); refine goesL_ (some 11) rfl rfl Try.func22 (by kernel_rfl) rfl #[.int .i64 a0] rfl (by (try simp only [List.map_toArray, List.map_cons, List.map_nil]); first | done | rfl | (simp only [List.length_drop, List.length_take]; rfl)) ?_; (with_reducible refine (lombardref03_May.calls a0 false _ A4.out).mono ?_); rintro e w' ⟨rfl, ⟨nd, rfl⟩⟩; refine ⟨_, rfl, ?_⟩))
      go_meet
      case rel => exact ⟨_, (true), (by first | rfl | (simp; done) | (simp [*]; done)), H', ⟨by first | omega | exact Nat.le_refl _⟩, ⟨by repeat (first | (with_reducible first | exact HB.out | apply below_alloc | apply pw_below_drewN | apply below_drew1) | exact HB.out)⟩⟩
  case rest =>
    clear HC3
    try clear c2
    try clear p2
    try clear c5
    try clear c6
    try clear c6b0
    obtain ⟨kq, x20_2, rfl, HA, HJ2, HB⟩ := hcut
    cases kq with
    | zero => exact absurd HA.out (by simp [lombardref03_Power.j0])
    | succ kj2 =>
      have H := HA.out
      clear HA
      simp only [lombardref03_Power.j0] at H
      by_cases c7 : x20_2 = true
      · subst c7
        have H1 : (some (0, 2)) = some (r1, r2) := by rw [if_pos rfl] at H; exact H
        clear H
        have H := H1
        clear H1
        simp only [Option.some.injEq, Prod.mk.injEq] at H
        obtain ⟨rfl, rfl⟩ := H
        go_wp2
        go_ret2
        exact ⟨by first | rfl | (simp [errW_none, errW_some] <;> rfl) | (simp [*, errW_none, errW_some] <;> rfl), by repeat (first | (with_reducible first | exact HB.out | apply below_alloc | apply pw_below_drewN | apply below_drew1) | exact HB.out)⟩
      · replace c7 := Bool.eq_false_iff.mpr c7
        subst c7
        have H1 : (lombardref03_Power.l0 kj2 a0 a1 1000000000000 0) = some (r1, r2) := by rw [if_neg (show ¬ (false = true) by decide)] at H; exact H
        clear H
        have H := H1
        clear H1
        have H' := Aside0.mk H
        clear H
        go_wp2
        go_loopg [6, 7] kj2 (fun kq v6 v7 w' => ∃ (x6_2 : Int) (x7_2 : Int), v6 = .int .i64 x6_2 ∧ v7 = .int .i64 x7_2 ∧ Aside0 (lombardref03_Power.l0 kq a0 a1 x6_2 x7_2 = some (r1, r2)) ∧ Aside0 (kq ≤ kj2) ∧ Aside0 (Below w.heap.size w w'))
        case atStart => exact ⟨(1000000000000), (0), (by first | rfl | (simp; done) | (simp [*]; done)), (by first | rfl | (simp; done) | (simp [*]; done)), H', ⟨Nat.le_refl _⟩, ⟨by repeat (first | (with_reducible first | exact HB.out | apply below_alloc | apply pw_below_drewN | apply below_drew1) | exact HB.out)⟩⟩
        case round =>
          clear H'
          try clear c2
          try clear p2
          try clear c5
          try clear c6
          try clear c6b0
          try clear c7
          try clear p2
          obtain ⟨x6_2, x7_2, rfl, rfl, HA, HK2, HB⟩ := hrel
          cases gk with
          | zero => exact absurd HA.out (by simp [lombardref03_Power.l0])
          | succ k2 =>
            have H := HA.out
            clear HA
            simp only [lombardref03_Power.l0] at H
            by_cases c8 : x7_2 < a1
            · rw [if_pos c8] at H
              have c8b0 : decide (x7_2 < a1) = true := decide_eq_true c8
              clear c8
              replace H := Option.bind_eq_some_iff.mp H
              obtain ⟨⟨t246, t247⟩, A90, H⟩ := H
              replace H : (if t247 = 0 then (lombardref03_Power.l0 k2 a0 a1 t246 (wrap64 (x7_2 + 1))) else (some (0, t247))) = some (r1, r2) := H
              have A9 := Aside0.mk A90
              clear A90
              by_cases c10 : t247 = 0
              · rw [if_pos c10] at H
                have c10b0 : (t247 == 0) = true := beq_iff_eq.mpr c10
                have c10b1 : (t247 != 0) = false := bne_eq_false_iff_eq.mpr c10
                clear c10
                have H' := Aside0.mk H
                clear H
                go_wp2_with (first | ((with_reducible refine gate_callee (f := 18) rfl ?_); refine goesL_ (some 29) rfl rfl Try.func18 (by kernel_rfl) rfl #[.int .i64 x6_2, .int .i64 a0] rfl (by (try simp only [List.map_toArray, List.map_cons, List.map_nil]); first | done | rfl | (simp only [List.length_drop, List.length_take]; rfl)) ?_; (with_reducible refine (lombardref03_Grow.calls x6_2 a0 t246 t247 _ A9.out).mono ?_); rintro e w11 ⟨rfl, hb⟩; refine ⟨_, rfl, ?_⟩; have n0_ := Aside0.mk (below_step (by repeat (first | (with_reducible first | exact HB.out | apply below_alloc | apply pw_below_drewN | apply below_drew1) | exact HB.out)) hb); clear HB; have HB := n0_; clear n0_; (try clear hb); (try clear hb2); (try clear hk); (try clear hi)))
                go_roundg k2
                case measure => have := HJ2.out; have := HK2.out; omega
                case rel => exact ⟨(t246), (wrap64 (x7_2 + 1)), (by first | rfl | (simp; done) | (simp [*]; done)), (by first | rfl | (simp; done) | (simp [*]; done)), H', ⟨by have := HJ2.out; have := HK2.out; omega⟩, ⟨by repeat (first | (with_reducible first | exact HB.out | apply below_alloc | apply pw_below_drewN | apply below_drew1) | exact HB.out)⟩⟩
              · rw [if_neg c10] at H
                have c10b0 : (t247 == 0) = false := beq_eq_false_iff_ne.mpr c10
                have c10b1 : (t247 != 0) = true := bne_iff_ne.mpr c10
                simp only [Option.some.injEq, Prod.mk.injEq] at H
                obtain ⟨rfl, rfl⟩ := H
                go_wp2_with (first | ((with_reducible refine gate_callee (f := 18) rfl ?_); refine goesL_ (some 29) rfl rfl Try.func18 (by kernel_rfl) rfl #[.int .i64 x6_2, .int .i64 a0] rfl (by (try simp only [List.map_toArray, List.map_cons, List.map_nil]); first | done | rfl | (simp only [List.length_drop, List.length_take]; rfl)) ?_; (with_reducible refine (lombardref03_Grow.calls x6_2 a0 t246 t247 _ A9.out).mono ?_); rintro e w12 ⟨rfl, hb⟩; refine ⟨_, rfl, ?_⟩; have n0_ := Aside0.mk (below_step (by repeat (first | (with_reducible first | exact HB.out | apply below_alloc | apply pw_below_drewN | apply below_drew1) | exact HB.out)) hb); clear HB; have HB := n0_; clear n0_; (try clear hb); (try clear hb2); (try clear hk); (try clear hi)))
                go_ret2
                exact ⟨by first | rfl | (simp [errW_none, errW_some] <;> rfl) | (simp [*, errW_none, errW_some] <;> rfl), by repeat (first | (with_reducible first | exact HB.out | apply below_alloc | apply pw_below_drewN | apply below_drew1) | exact HB.out)⟩
            · rw [if_neg c8] at H
              have c8b0 : decide (x7_2 < a1) = false := decide_eq_false c8
              clear c8
              simp only [Option.some.injEq, Prod.mk.injEq] at H
              obtain ⟨rfl, rfl⟩ := H
              go_wp2
              go_ret2
              exact ⟨by first | rfl | (simp [errW_none, errW_some] <;> rfl) | (simp [*, errW_none, errW_some] <;> rfl), by repeat (first | (with_reducible first | exact HB.out | apply below_alloc | apply pw_below_drewN | apply below_drew1) | exact HB.out)⟩

end Go.Proofs.Ytioicmialbimfaa.S
end

section
namespace Go.Proofs.Ytioicmialbimfaa.XRefRate
set_option linter.unusedVariables false
set_option linter.unusedSimpArgs false
open Go.RowKit Go.Proofs.Ytioicmialbimfaa.S Go.Proofs.Ytioicmialbimfaa.XNum Go.Proofs.Ytioicmialbimfaa.XBits Go.Proofs.Ytioicmialbimfaa.XWide Go.Proofs.Ytioicmialbimfaa.Rnd Go.Proofs.Ytioicmialbimfaa.XMdiv Go.Proofs.Ytioicmialbimfaa.XRate Go.Proofs.YtioicmialbimfaaW.PrintWords

theorem rmay (r : Int) : lombardref03_May.f r = some (decide (mayR r)) := by
  have h := may r
  unfold rate_May.f at h
  unfold lombardref03_May.f
  exact h
theorem near_f {r a b c : Int} (ha : I64 a) (hb : mayR r → I64 b) (hc : mayR r → I64 c) : lombardref03_near.f r a b c = some (if mayR r then mdiv (a * b) c 1 else (0, 2)) := by
  unfold lombardref03_near.f
  rw [rmay]
  simp only [Option.bind_some]
  by_cases d : mayR r
  · rw [decide_eq_true d, if_pos rfl, if_pos d, XRef02.mulDiv ha (hb d) (hc d)]
    rfl
  · rw [decide_eq_false d, if_neg (by simp), if_neg d]
theorem rinterest {x r : Int} (hx : I64 x) : lombardref03_Interest.f x r = some (interest x r) := by
  unfold lombardref03_Interest.f
  rw [near_f hx (fun h => ⟨by unfold mayR at h; omega, by unfold mayR at h; omega⟩) (fun _ => ⟨by omega, by omega⟩)]
  rfl
theorem rgrow {x r : Int} (hx : I64 x) : lombardref03_Grow.f x r = some (grow x r) := by
  unfold lombardref03_Grow.f grow
  rw [rmay]
  simp only [Option.bind_some]
  by_cases d : mayR r
  · have d2 := d
    unfold mayR at d2
    rw [decide_eq_true d, if_pos rfl, if_pos d, w64 (by omega) (by omega), near_f hx (fun _ => ⟨by omega, by omega⟩) (fun _ => ⟨by omega, by omega⟩), if_pos d]
    rfl
  · rw [decide_eq_false d, if_neg (by simp), if_neg d]
theorem rdiscount {x r : Int} (hx : I64 x) : lombardref03_Discount.f x r = some (discount x r) := by
  unfold lombardref03_Discount.f discount
  rw [rmay]
  simp only [Option.bind_some]
  by_cases d : mayR r
  · have d2 := d
    unfold mayR at d2
    rw [decide_eq_true d, if_pos rfl, if_pos d, w64 (by omega) (by omega), near_f hx (fun _ => ⟨by omega, by omega⟩) (fun _ => ⟨by omega, by omega⟩), if_pos d]
    rfl
  · rw [decide_eq_false d, if_neg (by simp), if_neg d]
theorem rpart {r o all : Int} (hr : I64 r) (ho : I64 o) (ha : I64 all) : lombardref03_Part.f r o all = some (XRate.part r o all) := by
  unfold lombardref03_Part.f XRate.part
  by_cases c : o < 0
  · rw [if_pos c, if_pos (.inl c)]
  · rw [if_neg c]
    by_cases d : all ≤ 0
    · rw [if_pos d, if_pos (.inr d)]
    · rw [if_neg d, if_neg (by omega), XRef02.mulDiv hr ho ha]
      rfl
theorem grow_zero {x r : Int} (h : (grow x r).2 ≠ 0) : (grow x r).1 = 0 := by
  unfold grow at *
  split at h
  · rw [if_pos (by assumption)]
    exact mdiv_err _ _ _ h
  · rw [if_neg (by assumption)]
theorem powers_zero (r : Int) : ∀ n, (powers r n).2 ≠ 0 → (powers r n).1 = 0
  | 0, h => absurd rfl h
  | n + 1, h => by
    unfold powers at *
    split at h
    · rw [if_pos (by assumption)]
      exact grow_zero h
    · rw [if_neg (by assumption)]
      exact powers_zero r n h
theorem ref_l0 {r : Int} : ∀ (d j k : Nat), j + d ≤ 600 → (powers r j).2 = 0 → d + 10 ≤ k → lombardref03_Power.l0 k r ((j + d : Nat) : Int) (powers r j).1 (j : Nat) = some (powers r (j + d)) := by
  intro d
  induction d with
  | zero =>
    intro j k hd h0 hk
    obtain ⟨k, rfl⟩ : ∃ m, k = m + 1 := ⟨k - 1, by omega⟩
    rw [lombardref03_Power.l0, if_neg (by omega), Nat.add_zero]
    congr 1
    exact Prod.ext rfl h0.symm
  | succ d ih =>
    intro j k hd h0 hk
    obtain ⟨k, rfl⟩ : ∃ m, k = m + 1 := ⟨k - 1, by omega⟩
    have e : grow (powers r j).1 r = powers r (j + 1) := by rw [powers, if_pos h0]
    rw [lombardref03_Power.l0, if_pos (by omega), rgrow (powers_i64 r j), e]
    simp only [Option.bind_some]
    by_cases c : (powers r (j + 1)).2 = 0
    · rw [if_pos c, w64 (by omega) (by omega), show ((j : Nat) : Int) + 1 = ((j + 1 : Nat) : Int) by omega, show j + (d + 1) = j + 1 + d by omega]
      exact ih (j + 1) k (by omega) c (by omega)
    · rw [if_neg c, show j + (d + 1) = j + 1 + d by omega, powers_err r c d]
      congr 1
      exact Prod.ext (powers_zero r _ c).symm rfl
theorem rpower {r n : Int} {k : Nat} (hk : 700 ≤ k) : lombardref03_Power.f k r n = some (power r n) := by
  obtain ⟨k, rfl⟩ : ∃ m, k = m + 1 := ⟨k - 1, by omega⟩
  unfold lombardref03_Power.f power
  rw [rmay]
  simp only [Option.bind_some]
  by_cases c : mayR r
  · rw [decide_eq_true c]
    simp only [if_true]
    by_cases d : n < 0
    · rw [if_pos d, lombardref03_Power.j0, if_pos rfl, if_neg (by omega)]
    · rw [if_neg d]
      by_cases e : n > 600
      · rw [decide_eq_true e, lombardref03_Power.j0, if_pos rfl, if_neg (by omega)]
      · rw [decide_eq_false e, lombardref03_Power.j0, if_neg (by simp), if_pos ⟨c, by omega, by omega⟩]
        have := ref_l0 (r := r) n.toNat 0 k (by omega) rfl (by omega)
        rw [Nat.zero_add, show ((n.toNat : Nat) : Int) = n by omega] at this
        exact this
  · rw [decide_eq_false c, if_neg (c := mayR r ∧ _) (fun h => c h.1)]
    simp only [Bool.false_eq_true, if_false]
    rw [lombardref03_Power.j0, if_pos rfl]
end Go.Proofs.Ytioicmialbimfaa.XRefRate
end

section
namespace Go.Proofs.Ytioicmialbimfaa.XCount
set_option linter.unusedVariables false
set_option linter.unusedSimpArgs false
open Go.RowKit Go.Proofs.Ytioicmialbimfaa.S Go.Proofs.Ytioicmialbimfaa.XNum Go.Proofs.Ytioicmialbimfaa.Cal Go.Proofs.Ytioicmialbimfaa.DayPure Go.Proofs.Ytioicmialbimfaa.XWide Go.Proofs.Ytioicmialbimfaa.Rnd Go.Proofs.Ytioicmialbimfaa.XMdiv Go.Proofs.Ytioicmialbimfaa.XRate Go.Proofs.Ytioicmialbimfaa.XRefRate Go.Proofs.YtioicmialbimfaaW.PrintWords Go.Proofs.YtioicmialbimfaaW.PrintLast Go.Proofs.YtioicmialbimfaaW.PrintMore

/-- A date's place among months of thirty days. -/
def thirty (y m d : Int) : Int := 360 * y + 30 * m + if 30 < d then 30 else d
/-- A day's place so: told by its date. -/
def IsFlat (n f : Int) : Prop := ∃ y m d, ok y m d ∧ num y m d = n ∧ f = thirty y m d
theorem isFlat {n : Int} (h1 : 1 ≤ n) (h2 : n ≤ 3652059) : ∃ f, IsFlat n f := by
  obtain ⟨y, m, d, ho, hn⟩ := date_of n h1 h2
  exact ⟨_, y, m, d, ho, hn, rfl⟩
theorem isFlat_uniq {n f g : Int} (h : IsFlat n f) (h' : IsFlat n g) : f = g := by
  obtain ⟨y, m, d, ho, hn, rfl⟩ := h
  obtain ⟨y', m', d', ho', hn', rfl⟩ := h'
  obtain ⟨rfl, rfl, rfl⟩ := num_inj ho ho' (hn.trans hn'.symm)
  rfl
theorem isFlat_bd {n f : Int} (h : IsFlat n f) : 391 ≤ f ∧ f ≤ 3700000 := by
  obtain ⟨y, m, d, ho, _, rfl⟩ := h
  obtain ⟨a1, a2, a3, a4, a5, a6⟩ := ho
  unfold thirty
  split <;> omega
theorem isFlat_in {n f : Int} (h : IsFlat n f) : 1 ≤ n ∧ n ≤ 3652059 := by
  obtain ⟨y, m, d, ho, rfl, _⟩ := h
  exact num_range ho
/-- A later day has no lower place. -/
theorem isFlat_mono {a b f g : Int} (ha : IsFlat a f) (hb : IsFlat b g) (h : a ≤ b) : f ≤ g := by
  obtain ⟨y, m, d, ho, rfl, rfl⟩ := ha
  obtain ⟨y', m', d', ho', rfl, rfl⟩ := hb
  have hy := year_le ho ho' h
  have b1 := dim_bd y m
  have b2 := dim_bd y' m'
  obtain ⟨a1, a2, a3, a4, a5, a6⟩ := id ho
  obtain ⟨c1, c2, c3, c4, c5, c6⟩ := id ho'
  by_cases e : y = y'
  · subst e
    have hm : m ≤ m' := by
      rcases Int.lt_or_le m' m with l | l
      · exact absurd (num_month_lt ho' ho l) (by omega)
      · exact l
    by_cases e2 : m = m'
    · subst e2
      have hd : d ≤ d' := by unfold num at h; omega
      unfold thirty
      split <;> split <;> omega
    · unfold thirty
      split <;> split <;> omega
  · unfold thirty
    split <;> split <;> omega
/-- Some two thousand days are few years. -/
theorem isFlat_near {a b f g : Int} (ha : IsFlat a f) (hb : IsFlat b g) (h : a ≤ b) (h' : b ≤ a + 2004) : g - f ≤ 2519 := by
  obtain ⟨y, m, d, ho, rfl, rfl⟩ := ha
  obtain ⟨y', m', d', ho', rfl, rfl⟩ := hb
  have hy := year_le ho ho' h
  have i1 := num_in_year ho
  have i2 := num_in_year ho'
  have y6 : y' ≤ y + 6 := by
    rcases Int.lt_or_le (y + 6) y' with l | l
    · have := yd_mono (show y + 7 ≤ y' by omega)
      have s1 := yd_lt (show y + 1 < y + 2 by omega)
      have s2 := yd_lt (show y + 2 < y + 3 by omega)
      have s3 := yd_lt (show y + 3 < y + 4 by omega)
      have s4 := yd_lt (show y + 4 < y + 5 by omega)
      have s5 := yd_lt (show y + 5 < y + 6 by omega)
      have s6 := yd_lt (show y + 6 < y + 7 by omega)
      omega
    · exact l
  obtain ⟨a1, a2, a3, a4, a5, a6⟩ := ho
  obtain ⟨c1, c2, c3, c4, c5, c6⟩ := ho'
  unfold thirty
  split <;> split <;> omega

theorem flat1 {n f : Int} (h : IsFlat n f) {k : Nat} (hk : 20000 ≤ k) : count_flat_1.f k n = some f := by
  have hb := isFlat_bd h
  obtain ⟨y, m, d, ho, rfl, rfl⟩ := h
  unfold count_flat_1.f
  rw [to_num ho k hk, Option.bind_some]
  obtain ⟨a1, a2, a3, a4, a5, a6⟩ := ho
  have b1 := dim_bd y m
  have e : mn d 30 = if 30 < d then 30 else d := by unfold mn; rfl
  simp only [e]
  unfold thirty at hb ⊢
  rw [w64 (n := 360 * y) (by omega) (by omega), w64 (n := 30 * m) (by omega) (by omega), w64 (n := 360 * y + 30 * m) (by omega) (by omega), w64 (by omega) (by omega)]
theorem flat {a b f g : Int} (ha : IsFlat a f) (hb : IsFlat b g) {k : Nat} (hk : 20000 ≤ k) : count_flat.f k a b = some (g - f) := by
  have h1 := isFlat_bd ha
  have h2 := isFlat_bd hb
  unfold count_flat.f
  rw [flat1 hb hk, Option.bind_some, flat1 ha hk, Option.bind_some, w64 (by omega) (by omega)]

/-- How many days there are between two, in a way: f and g are their places among months of thirty. -/
def dv (a b f g way : Int) : Int × Int := if count_Basis.v way = 0 then (0, 2) else if way = 1 then (g - f, 0) else (b - a, 0)
def dn (way : Int) : Int × Int := if count_Basis.v way = 0 then (0, 2) else (0, 5)
theorem days_in {a b f g : Int} (ha : IsFlat a f) (hb : IsFlat b g) (way : Int) {k : Nat} (hk : 20000 ≤ k) : count_Days.f k a b way = some (dv a b f g way) := by
  have ra := isFlat_in ha
  have rb := isFlat_in hb
  have m1 : ¬ mn a b < 1 := by unfold mn; split <;> omega
  have m2 : ¬ 3652059 < mx a b := by unfold mx; split <;> omega
  unfold count_Days.f dv
  by_cases c : count_Basis.v way = 0
  · rw [if_pos c, if_pos c]
  · rw [if_neg c, if_neg c, if_neg m1, if_neg m2]
    by_cases w : way = 1
    · rw [if_pos w, if_pos w, flat ha hb hk, Option.bind_some]
    · rw [if_neg w, if_neg w]
      unfold count_real.f
      rw [Option.bind_some, w64 (by omega) (by omega)]
theorem days_out {a b : Int} (h : ¬(1 ≤ a ∧ a ≤ 3652059 ∧ 1 ≤ b ∧ b ≤ 3652059)) (way : Int) (k : Nat) : count_Days.f k a b way = some (dn way) := by
  unfold count_Days.f dn
  by_cases c : count_Basis.v way = 0
  · rw [if_pos c, if_pos c]
  · rw [if_neg c, if_neg c]
    by_cases m1 : mn a b < 1
    · rw [if_pos m1]
    · rw [if_neg m1, if_pos]
      unfold mn at m1
      unfold mx
      split at m1 <;> split <;> omega
/-- Whatever the days are, there is one answer. -/
theorem days_any (a b way : Int) : ∃ D, ∀ k, 20000 ≤ k → count_Days.f k a b way = some D := by
  by_cases h : 1 ≤ a ∧ a ≤ 3652059 ∧ 1 ≤ b ∧ b ≤ 3652059
  · obtain ⟨f, hf⟩ := isFlat h.1 h.2.1
    obtain ⟨g, hg⟩ := isFlat h.2.2.1 h.2.2.2
    exact ⟨_, fun k hk => days_in hf hg way hk⟩
  · exact ⟨_, fun k _ => days_out h way k⟩
theorem dv_bd {a b f g : Int} (ha : IsFlat a f) (hb : IsFlat b g) (way : Int) : -3700000 ≤ (dv a b f g way).1 ∧ (dv a b f g way).1 ≤ 3700000 := by
  have ra := isFlat_in ha
  have rb := isFlat_in hb
  have h1 := isFlat_bd ha
  have h2 := isFlat_bd hb
  unfold dv
  split
  · exact ⟨by decide, by decide⟩
  · split
    · show _ ≤ g - f ∧ g - f ≤ _
      omega
    · show _ ≤ b - a ∧ b - a ≤ _
      omega

/-- Interest between days, the days' number (or the error) given. -/
def accr (x r a b way : Int) (D : Int × Int) : Int × Int :=
  if D.2 = 0 then if b < a then (0, 2) else if mayR r then (if (XRate.part r D.1 (count_Basis.v way)).2 = 0 then interest x (XRate.part r D.1 (count_Basis.v way)).1 else (0, (XRate.part r D.1 (count_Basis.v way)).2)) else (0, 2) else (0, D.2)
theorem v_bd (way : Int) : 0 ≤ count_Basis.v way ∧ count_Basis.v way ≤ 365 := by
  unfold count_Basis.v
  split
  · omega
  · split <;> omega
theorem accrue {x r a b way : Int} {D : Int × Int} (hx : I64 x) (hr : I64 r) (hD : I64 D.1) {k : Nat} (hk : 20000 ≤ k) (hd : count_Days.f k a b way = some D) : count_Accrue.f k x r a b way = some (accr x r a b way D) := by
  have hv := v_bd way
  unfold count_Accrue.f accr
  rw [hd, Option.bind_some]
  by_cases c : D.2 = 0
  · rw [if_pos c, if_pos c]
    by_cases c2 : b < a
    · rw [if_pos c2, if_pos c2]
    · rw [if_neg c2, if_neg c2, may, Option.bind_some]
      by_cases c3 : mayR r
      · rw [decide_eq_true c3, if_pos rfl, if_pos c3]
        unfold count_Basis.f
        rw [Option.bind_some, part_f hr hD (by constructor <;> omega) (by omega), Option.bind_some]
        by_cases c4 : (XRate.part r D.1 (count_Basis.v way)).2 = 0
        · rw [if_pos c4, if_pos c4, interest_f hx (by omega), Option.bind_some]
        · rw [if_neg c4, if_neg c4]
      · rw [decide_eq_false c3, if_neg (by simp), if_neg c3]
  · rw [if_neg c, if_neg c]

-- ------------------------------------------------ the document's
theorem rbasis (way : Int) {k : Nat} (hk : 1 ≤ k) : lombardref05_Basis.f k way = some (count_Basis.v way) := by
  obtain ⟨k, rfl⟩ : ∃ j, k = j + 1 := ⟨k - 1, by omega⟩
  unfold lombardref05_Basis.f count_Basis.v
  by_cases c1 : way = 1
  · rw [if_pos c1, if_pos (.inl c1)]
    rfl
  · rw [if_neg c1]
    by_cases c2 : way = 2
    · rw [if_pos (.inr c2), show (way == 2) = true from beq_iff_eq.mpr c2]
      rfl
    · rw [if_neg (by omega), show (way == 2) = false from beq_eq_false_iff_ne.mpr c2]
      simp only [lombardref05_Basis.j0, Bool.false_eq_true, if_false]
      by_cases c3 : way = 3
      · rw [if_pos c3, if_pos c3]
      · rw [if_neg c3, if_neg c3]
theorem rdays_in {a b f g : Int} (ha : IsFlat a f) (hb : IsFlat b g) (way : Int) {k : Nat} (hk : 20000 ≤ k) : lombardref05_Days.f k a b way = some (dv a b f g way) := by
  have ra := isFlat_in ha
  have rb := isFlat_in hb
  unfold lombardref05_Days.f dv
  rw [rbasis way (by omega), Option.bind_some]
  by_cases c : count_Basis.v way = 0
  · rw [if_pos c, if_pos c]
  · rw [if_neg c, if_neg c]
    obtain ⟨y, m, d, ho, rfl, rfl⟩ := ha
    obtain ⟨y', m', d', ho', rfl, rfl⟩ := hb
    rw [DayRef.to_num ho k hk, Option.bind_some, DayRef.to_num ho' k hk, Option.bind_some]
    obtain ⟨a1, a2, a3, a4, a5, a6⟩ := ho
    obtain ⟨c1, c2, c3, c4, c5, c6⟩ := ho'
    have b1 := dim_bd y m
    have b2 := dim_bd y' m'
    obtain ⟨k, rfl⟩ : ∃ j, k = j + 1 := ⟨k - 1, by omega⟩
    simp only [if_true, bne_self_eq_false, lombardref05_Days.j0, Bool.false_eq_true, if_false]
    by_cases w : way = 1
    · rw [if_pos w, if_pos w]
      unfold thirty
      rw [w64 (n := y' - y) (by omega) (by omega), w64 (n := m' - m) (by omega) (by omega), w64 (n := 360 * (y' - y)) (by omega) (by omega), w64 (n := 30 * (m' - m)) (by omega) (by omega), w64 (n := 360 * (y' - y) + 30 * (m' - m)) (by omega) (by omega), w64 (n := 360 * (y' - y) + 30 * (m' - m) + 30) (by omega) (by omega), w64 (n := 360 * (y' - y) + 30 * (m' - m) + d') (by omega) (by omega),
        w64 (n := 360 * (y' - y) + 30 * (m' - m) + 30 - 30) (by omega) (by omega), w64 (n := 360 * (y' - y) + 30 * (m' - m) + d' - 30) (by omega) (by omega), w64 (n := 360 * (y' - y) + 30 * (m' - m) + 30 - d) (by omega) (by omega), w64 (n := 360 * (y' - y) + 30 * (m' - m) + d' - d) (by omega) (by omega)]
      have e : (360 * y' + 30 * m' + if 30 < d' then 30 else d') - (360 * y + 30 * m + if 30 < d then 30 else d) = 360 * (y' - y) + 30 * (m' - m) + (if 30 < d' then 30 else d') - (if 30 < d then 30 else d) := by omega
      rw [e]
      by_cases d1 : d = 31
      · rw [if_pos d1, show (if 30 < d then (30 : Int) else d) = 30 by rw [if_pos (by omega)]]
        by_cases d2 : d' = 31
        · rw [if_pos d2, show (if 30 < d' then (30 : Int) else d') = 30 by rw [if_pos (by omega)]]
        · rw [if_neg d2, show (if 30 < d' then (30 : Int) else d') = d' by rw [if_neg (by omega)]]
      · rw [if_neg d1, show (if 30 < d then (30 : Int) else d) = d by rw [if_neg (by omega)]]
        by_cases d2 : d' = 31
        · rw [if_pos d2, show (if 30 < d' then (30 : Int) else d') = 30 by rw [if_pos (by omega)]]
        · rw [if_neg d2, show (if 30 < d' then (30 : Int) else d') = d' by rw [if_neg (by omega)]]
    · rw [if_neg w, if_neg w, w64 (by omega) (by omega)]
theorem rdays_out {a b : Int} (h : ¬(1 ≤ a ∧ a ≤ 3652059 ∧ 1 ≤ b ∧ b ≤ 3652059)) (way : Int) {k : Nat} (hk : 20000 ≤ k) : lombardref05_Days.f k a b way = some (dn way) := by
  unfold lombardref05_Days.f dn
  rw [rbasis way (by omega), Option.bind_some]
  by_cases c : count_Basis.v way = 0
  · rw [if_pos c, if_pos c]
  · rw [if_neg c, if_neg c]
    by_cases ha : 1 ≤ a ∧ a ≤ 3652059
    · obtain ⟨y, m, d, ho, rfl⟩ := date_of a ha.1 ha.2
      rw [DayRef.to_num ho k hk, Option.bind_some, DayRef.to_no (n := b) (by omega) k (by omega), Option.bind_some]
      obtain ⟨k, rfl⟩ : ∃ j, k = j + 1 := ⟨k - 1, by omega⟩
      rfl
    · rw [DayRef.to_no (n := a) (by omega) k (by omega), Option.bind_some]
      obtain ⟨D, hD⟩ : ∃ D, lombardref04_To.f k b = some D := by
        by_cases hb : 1 ≤ b ∧ b ≤ 3652059
        · obtain ⟨y, m, d, ho, rfl⟩ := date_of b hb.1 hb.2
          exact ⟨_, DayRef.to_num ho k hk⟩
        · exact ⟨_, DayRef.to_no (n := b) (by omega) k (by omega)⟩
      rw [hD, Option.bind_some]
      obtain ⟨k, rfl⟩ : ∃ j, k = j + 1 := ⟨k - 1, by omega⟩
      rfl
/-- Both count alike. -/
theorem days_both (a b way : Int) : ∃ D : Int × Int, I64 D.1 ∧ ∀ k, 20000 ≤ k → count_Days.f k a b way = some D ∧ lombardref05_Days.f k a b way = some D := by
  by_cases h : 1 ≤ a ∧ a ≤ 3652059 ∧ 1 ≤ b ∧ b ≤ 3652059
  · obtain ⟨f, hf⟩ := isFlat h.1 h.2.1
    obtain ⟨g, hg⟩ := isFlat h.2.2.1 h.2.2.2
    have := dv_bd hf hg way
    exact ⟨_, by constructor <;> omega, fun k hk => ⟨days_in hf hg way hk, rdays_in hf hg way hk⟩⟩
  · exact ⟨dn way, by unfold dn; split <;> exact ⟨by decide, by decide⟩, fun k hk => ⟨days_out h way k, rdays_out h way hk⟩⟩
theorem raccrue {x r a b way : Int} {D : Int × Int} (hx : I64 x) (hr : I64 r) (hD : I64 D.1) {k : Nat} (hk : 20000 ≤ k) (hd : lombardref05_Days.f k a b way = some D) : lombardref05_Accrue.f k x r a b way = some (accr x r a b way D) := by
  have hv := v_bd way
  unfold lombardref05_Accrue.f accr
  rw [hd, Option.bind_some]
  by_cases c : D.2 = 0
  · rw [if_pos c, if_pos c]
    obtain ⟨k, rfl⟩ : ∃ j, k = j + 1 := ⟨k - 1, by omega⟩
    by_cases c2 : b < a
    · rw [if_pos c2, if_pos c2]
      rfl
    · rw [if_neg c2, if_neg c2, rmay, Option.bind_some]
      by_cases c3 : mayR r
      · rw [decide_eq_true c3, if_pos c3]
        simp only [Bool.not_true, lombardref05_Accrue.j0, Bool.false_eq_true, if_false]
        rw [rbasis way (by omega), Option.bind_some, rpart hr hD (by constructor <;> omega), Option.bind_some]
        by_cases c4 : (XRate.part r D.1 (count_Basis.v way)).2 = 0
        · rw [if_pos c4, if_pos c4, rinterest hx, Option.bind_some]
        · rw [if_neg c4, if_neg c4]
      · rw [decide_eq_false c3, if_neg c3]
        rfl
  · rw [if_neg c, if_neg c]

theorem isFlat_of {y m d : Int} (h : ok y m d) : IsFlat (num y m d) (thirty y m d) := ⟨y, m, d, h, rfl, rfl⟩
theorem alive {k : Nat} (hk : 20000 ≤ k) : lombardlaw05_alive.f k = some true := by
  have o1 : ok 2020 1 31 := by decide
  have o2 : ok 2020 3 1 := by decide
  have o3 : ok 2020 2 10 := by decide
  have n1 : num 2020 1 31 = 737455 := by decide
  have n2 : num 2020 3 1 = 737485 := by decide
  have n3 : num 2020 2 10 = 737465 := by decide
  have f1 := isFlat_of o1
  have f2 := isFlat_of o2
  have f3 := isFlat_of o3
  rw [n1] at f1
  rw [n2] at f2
  rw [n3] at f3
  unfold lombardlaw05_alive.f
  rw [from_ok o1 k (by omega), from_ok o2 k (by omega), n1, n2]
  simp only [Option.bind_some]
  rw [show wrap64 (737455 + 10) = 737465 from w64 (by decide) (by decide), days_in f1 f2 1 hk, days_in f1 f2 2 hk, accrue (x := 36000) (r := 100000000000) (by constructor <;> decide) (by constructor <;> decide) (by constructor <;> decide) hk (days_in f1 f3 2 hk)]
  simp only [Option.bind_some]
  unfold count_Basis.f
  simp only [Option.bind_some]
  decide +kernel
end Go.Proofs.Ytioicmialbimfaa.XCount
end

section
namespace Go.Proofs.Ytioicmialbimfaa.Pure
set_option linter.unusedVariables false
set_option linter.unusedSimpArgs false
open Go.RowKit Go.Proofs.Ytioicmialbimfaa.S Go.Proofs.Ytioicmialbimfaa.XNum Go.Proofs.Ytioicmialbimfaa.Cal Go.Proofs.Ytioicmialbimfaa.DayPure Go.Proofs.Ytioicmialbimfaa.XWide Go.Proofs.Ytioicmialbimfaa.Rnd Go.Proofs.Ytioicmialbimfaa.XMdiv Go.Proofs.Ytioicmialbimfaa.XRate Go.Proofs.Ytioicmialbimfaa.XCount Go.Proofs.YtioicmialbimfaaW.PrintWords Go.Proofs.YtioicmialbimfaaW.PrintLast Go.Proofs.YtioicmialbimfaaW.PrintMore

theorem CountAccrues : lombardlaw05_CountAccrues.Pure := by
  intro x r a b way hx hr _ _ _
  rw [wf64] at hx hr
  refine ⟨20000, ?_⟩
  obtain ⟨D, hD, h⟩ := days_both a b way
  obtain ⟨h1, h2⟩ := h 20000 (by omega)
  unfold lombardlaw05_CountAccrues.f
  rw [alive (by omega), h1, h2, accrue hx hr hD (by omega) h1, raccrue hx hr hD (by omega) h2, rbasis way (by omega)]
  unfold count_Basis.f
  simp only [Option.bind_some, if_true, beq_self_eq_true]
end Go.Proofs.Ytioicmialbimfaa.Pure
end

section
namespace Go.Proofs.Ytioicmialbimfaa.XOpen
set_option linter.unusedVariables false
set_option linter.unusedSimpArgs false
open Go.ChangeShapes Go.WideShapes Go.RowKit Go.Proofs.YtioicmialbimfaaW.PrintWords
section
variable {H : Type} {enc : TypeId × Value → H} {P : Program} {w : World} {base : Nat} {spare : Nat → Bool} {held : Bool}

/-- Whatever reads as data of type t holds a value of the kind d, and it is good. -/
def Opens {α : Type} (enc : TypeId × Value → H) (P : Program) (w : World) (base : Nat) (spare : Nat → Bool) (held : Bool) (t : TypeId) (d : Kd α) (g : α → Prop) : Prop :=
  ∀ fuel cs x, DataW.trod enc P w base spare held fuel t cs = some x → ∃ a, d.K w a cs ∧ g a

theorem opens_int {t : TypeId} {k : IntKind} (ht : P.underlying t = some (.int k)) : Opens enc P w base spare held t (Kd.int k) (fun a => (Lit.int k a).wf = true) := by
  intro fuel cs x h
  obtain ⟨n, rfl, _, hw⟩ := DataW.trod_int ht h
  exact ⟨n, rfl, hw⟩

theorem opens_bool {t : TypeId} (ht : P.underlying t = some .bool) : Opens enc P w base spare held t Kd.bool (fun _ => True) := by
  intro fuel cs x h
  obtain ⟨n, rfl, _⟩ := DataW.trod_bool ht h
  exact ⟨n, rfl, trivial⟩

theorem opens_string {t : TypeId} (ht : P.underlying t = some .string) : Opens enc P w base spare held t Kd.string (fun s => s.size ≤ maxLen) := by
  intro fuel cs x h
  obtain ⟨s, rfl, _, hs⟩ := DataW.trod_string ht h
  exact ⟨s, rfl, hs⟩

theorem choose_list {α : Type} (n : Nat) (p : Nat → α → Prop) (h : ∀ i, i < n → ∃ a, p i a) : ∃ l : List α, l.length = n ∧ ∀ i a, l[i]? = some a → p i a := by
  induction n with
  | zero => exact ⟨[], rfl, fun i a hi => by simp at hi⟩
  | succ n ih =>
    obtain ⟨l, hl, hp⟩ := ih (fun i hi => h i (by omega))
    obtain ⟨a, ha⟩ := h n (by omega)
    refine ⟨l ++ [a], by simp [hl], fun i b hi => ?_⟩
    by_cases hin : i < n
    · rw [List.getElem?_append_left (by omega)] at hi
      exact hp i b hi
    · by_cases e : i = n
      · subst e
        rw [List.getElem?_append_right (by omega), hl] at hi
        simp at hi
        subst hi
        exact ha
      · rw [List.getElem?_append_right (by omega), hl, List.getElem?_eq_none (by simp; omega)] at hi
        cases hi

theorem opens_slice {α : Type} {t e : TypeId} {d : Kd α} {g : α → Prop} (ht : P.underlying t = some (.slice e)) (hc : P.cellsOf e = d.sz) (he : Opens enc P w base spare held e d g) :
    Opens enc P w base spare held t (Kd.slice e d) (fun l => l.length ≤ maxLen ∧ ∀ a ∈ l, g a) := by
  intro fuel cs x h
  rcases DataW.trod_slice ht h with ⟨rfl, _⟩ | ⟨a, len, cap, elems, rest, n, _, rfl, _, _, hl, hm, hlen, hel, _⟩
  · exact ⟨[], ⟨none, 0, rfl, Nat.le_refl _, rfl, Nat.zero_le _, fun h0 => absurd h0 (Nat.lt_irrefl 0)⟩, Nat.zero_le _, fun a ha => absurd ha List.not_mem_nil⟩
  · have hp : ∀ i, i < len → ∃ q : α, (∃ c : List Value, c.length = d.sz ∧ d.K w q c ∧ ∀ j u, c[j]? = some u → w.cell? (a.add (i * d.sz + j)) = some u) ∧ g q := by
      intro i hi
      have h1 := hel i hi
      have hi' : i < elems.length := by omega
      rw [List.getElem?_eq_getElem hi', Option.bind_eq_some_iff] at h1
      obtain ⟨c, hcs, hy⟩ := h1
      obtain ⟨q, hk, hg⟩ := he _ _ _ hy
      obtain ⟨_, hcl, hat⟩ := World.cells?_some hcs
      refine ⟨q, ⟨c, hcl.trans hc, hk, fun j u hu => ?_⟩, hg⟩
      have hj : j < P.cellsOf e := by
        have := (List.getElem?_eq_some_iff.1 hu).1
        omega
      have h2 := hat j hj
      rw [hu, hc] at h2
      have h3 : (a.add (i * d.sz)).add j = a.add (i * d.sz + j) := by
        exact Go.Deep.add_add a (i * d.sz) j
      rw [h3] at h2
      exact h2
    obtain ⟨l, hll, hall⟩ := choose_list len _ hp
    subst hll
    refine ⟨l, ⟨some a, cap, rfl, hl, ?_⟩, Nat.le_trans hl hm, fun q hq => ?_⟩
    · refine ⟨rfl, ?_, fun _ => ⟨a, rfl, fun j p hj => (hall j p hj).1⟩⟩
      have := Nat.le_trans hl hm
      unfold maxLen at this
      exact this
    · obtain ⟨i, hi⟩ := List.getElem?_of_mem hq
      exact (hall i q hi).2

/-- A field: its cells are those that stand at its place. -/
theorem field_of {α : Type} {t : TypeId} {fs : Array Field} {d : Kd α} {g : α → Prop} {fuel : Nat} {cs : List Value} {x : DataW H × List MemPlace} (ht : P.underlying t = some (.struct fs)) (h : DataW.trod enc P w base spare held fuel t cs = some x)
    (i : Nat) (f : Field) (hf : fs[i]? = some f) (ho : Opens enc P w base spare held f.type d g) (off sz : Nat) (h0 : f.offset = off) (h1 : P.cellsOf f.type = sz) : ∃ a, d.K w a ((cs.drop off).take sz) ∧ g a := by
  subst h0 h1
  obtain ⟨xs, n, _, _, _, hl, hat⟩ := DataW.trod_struct ht h
  have hi : i < xs.length := by
    rw [hl]
    exact (Array.getElem?_eq_some_iff.1 hf).1
  have h2 := hat i f hf
  rw [List.getElem?_eq_getElem hi] at h2
  exact ho _ _ _ h2

theorem cells_len {t : TypeId} {fs : Array Field} {fuel : Nat} {cs : List Value} {x : DataW H × List MemPlace} (ht : P.underlying t = some (.struct fs)) (h : DataW.trod enc P w base spare held fuel t cs = some x) : cs.length = P.cellsOf t := by
  obtain ⟨xs, n, _, _, hl, _⟩ := DataW.trod_struct ht h
  exact hl

theorem K_pair {α β : Type} {a : Kd α} {b : Kd β} {x : α} {y : β} {cs : List Value} (n : Nat) (h0 : a.K w x (cs.take n)) (h1 : b.K w y (cs.drop n)) : (Kd.pair a b).K w (x, y) cs :=
  ⟨cs.take n, cs.drop n, (List.take_append_drop n cs).symm, h0, h1⟩

theorem drop_drop' (cs : List Value) (m n : Nat) : (cs.drop m).drop n = cs.drop (m + n) := List.drop_drop

theorem K_pair' {α β : Type} {a : Kd α} {b : Kd β} {x : α} {y : β} {cs : List Value} (off n : Nat) (h0 : a.K w x ((cs.drop off).take n)) (h1 : b.K w y (cs.drop (off + n))) : (Kd.pair a b).K w (x, y) (cs.drop off) :=
  K_pair n h0 (by rw [drop_drop']; exact h1)

theorem K_last {α : Type} {a : Kd α} {x : α} {cs : List Value} (off n : Nat) (h0 : a.K w x ((cs.drop off).take n)) (hl : cs.length ≤ off + n) : a.K w x (cs.drop off) := by
  rw [List.take_of_length_le (by rw [List.length_drop]; omega)] at h0
  exact h0

theorem K_all {α : Type} {a : Kd α} {x : α} {cs : List Value} (h0 : a.K w x (cs.drop 0)) : a.K w x cs := h0

theorem okWide_agg {r : Reach} {t : TypeId} {fs : Array Field} {v : Value} (ht : P.underlying t = some (.struct fs)) (h : Value.okWide P w r base t v) : ∃ cs, v = .agg cs := by
  obtain ⟨cs, h, _⟩ := okWide_struct ht h
  exact ⟨cs, h⟩

theorem agg_of {cs : Array Value} {l : List Value} (h : (Value.agg cs).cells.toList = l) : cs = l.toArray := by
  subst h
  simp [Value.cells]

theorem slice_of {a : Option Addr} {len cap : Nat} {A : Option Addr} {n c : Nat} (h : (Value.slice a len cap).cells.toList = [.slice A n c]) : a = A ∧ len = n ∧ cap = c := by
  simpa [Value.cells] using h
end
end Go.Proofs.Ytioicmialbimfaa.XOpen
end

section
namespace Go.Proofs.Ytioicmialbimfaa.countAccrues
open Go.ChangeShapes Go.WideShapes Go.ChangeAt Go.RowKit Go.Proofs.Ytioicmialbimfaa.S Go.Proofs.YtioicmialbimfaaW.PrintWords Go.Proofs.Ytioicmialbimfaa.XOpen
open Go.ChangeMaps (open_string shut_string)
set_option linter.unusedVariables false
theorem own : ownKnob Try.prog.godebug = none := by kernel_rfl
theorem laidOut : laidOutB Try.prog = true := by kernel_rfl
theorem opens_S42 {H : Type} {enc : TypeId × Value → H} {w : World} {base : Nat} {spare : Nat → Bool} {held : Bool} : Opens enc Try.prog w base spare held 42 k42 (fun a => ((Lit.int .i64 a.f0).wf = true ∧ (Lit.int .i64 a.f1).wf = true ∧ (Lit.int .i64 a.f2).wf = true ∧ (Lit.int .i64 a.f3).wf = true ∧ (Lit.int .i64 a.f4).wf = true)) := by
  intro fuel cs x h
  have hl : cs.length = 5 := (cells_len Try.underlying42 h).trans (by kernel_rfl)
  obtain ⟨a0, h0, g0⟩ := field_of Try.underlying42 h 0 _ rfl (opens_int Try.underlying2) 0 1 rfl (by kernel_rfl)
  obtain ⟨a1, h1, g1⟩ := field_of Try.underlying42 h 1 _ rfl (opens_int Try.underlying2) 1 1 rfl (by kernel_rfl)
  obtain ⟨a2, h2, g2⟩ := field_of Try.underlying42 h 2 _ rfl (opens_int Try.underlying3) 2 1 rfl (by kernel_rfl)
  obtain ⟨a3, h3, g3⟩ := field_of Try.underlying42 h 3 _ rfl (opens_int Try.underlying3) 3 1 rfl (by kernel_rfl)
  obtain ⟨a4, h4, g4⟩ := field_of Try.underlying42 h 4 _ rfl (opens_int Try.underlying3) 4 1 rfl (by kernel_rfl)
  refine ⟨⟨a0, a1, a2, a3, a4⟩, ?_, ⟨g0, g1, g2, g3, g4⟩⟩
  exact K_all (K_pair' 0 1 h0 (K_pair' 1 1 h1 (K_pair' 2 1 h2 (K_pair' 3 1 h3 (K_last 4 1 h4 (by omega))))))
set_option maxRecDepth 100000 in
theorem lifted (os : Os) (started : os.Started) (H : Type) (enc : TypeId × Value → H) :
    ReturnsInHanded {} Try.checked os 9 .any (Rows.countAccruesSpec.pre6 enc Try.prog Try.f9 Rows.countAccruesRow.domain false) (Rows.countAccruesSpec.post enc Try.prog Try.f9 false true false false) := by
  refine returnsInHanded_of_change_sized (C := Try.checked) own started (by kernel_rfl) Try.func9
    (ChangeSpec.witness6 (enc := enc) (C := Try.checked) false ⟨#[], #[.agg #[.int .i64 0, .int .i64 0, .int .i64 0, .int .i64 0, .int .i64 0]], []⟩ 8 (by kernel_rfl) (by kernel_rfl) (by kernel_rfl) (by kernel_rfl)) ?_
  intro W base args ds gs before hval0 hW hcnd hsz0 _
  have hval : ∀ (j : Nat) t v, Try.f9.params[j]? = some t → args[j]? = some v → Value.okWide Try.prog W .any base t v := hval0
  have hW' := hW
  obtain ⟨p, q, hA0, hV, rfl, hfz, hnd⟩ := hW
  have hA : DataW.TrodAll enc Try.prog W 0 (fun _ => true) true Try.f9.params.toList args.toList ds p := hA0
  rw [Try.params9] at hA hval
  obtain ⟨v0, vs0, d0, ds0, p0, q0, hargs, rfl, rfl, h0, r0⟩ := trodAll_cons hA
  obtain ⟨rfl, rfl, rfl⟩ := trodAll_nil r0
  obtain rfl : args = #[v0] := by cases args; simp_all
  obtain ⟨rfl, rfl⟩ := trodVars_none hV
  clear hA0 hsz0
  have k0 := h0
  have lt0 : ∀ x ∈ p0, x.block < W.heap.size := by obtain ⟨m, hm⟩ := k0; exact DataW.trod_lt m _ _ _ hm
  obtain ⟨u0, hf0⟩ := h0
  obtain ⟨s0, hk0, hg0⟩ := opens_S42 _ _ _ hf0
  have he0 := k42_open hk0
  obtain ⟨b0, rfl⟩ := okWide_agg Try.underlying42 (hval 0 42 v0 rfl rfl)
  obtain rfl := agg_of he0
  refine (S.lombardlaw05_CountAccrues.walk Pure.CountAccrues s0.f0 s0.f1 s0.f2 s0.f3 s0.f4 W  hg0.1 hg0.2.1 hg0.2.2.1 hg0.2.2.2.1 hg0.2.2.2.2).mono fun e W' ⟨he, bel⟩ => ?_
  subst he
  exact ⟨_, rfl, _, _, _, [], _, [], hW', trodAll_mk1 (shut_bool Try.underlying4 _), (trodAll_cons_mk (Below.trod laidOut (by kernel_rfl) (of_decide_eq_true (by kernel_rfl)) k0 bel lt0) trodAll_mk0), rfl, bel.frame _, fun h => by cases h⟩
theorem over : Rows.countAccruesRow.holds Try.pinned (OpenSpec.ofChange Rows.countAccruesSpec) :=
  OpenClaim.holds_of_wide 9 Try.f9 rfl rfl rfl rfl rfl rfl rfl ⟨rfl, rfl, rfl, rfl, rfl⟩ rfl rfl rfl rfl rfl (by kernel_rfl) Try.func9 (by kernel_rfl)
    (of_decide_eq_true (by kernel_rfl)) (by unfold Func.isWrapper; first | (rw [if_pos (by decide +kernel)]; kernel_rfl) | (rw [if_neg (by decide +kernel)]; exact ⟨rfl, rfl⟩))
    (fun os started H enc _ => lifted os started H enc)
theorem proved : Rows.CountAccruesSaid := over
#print axioms proved
end Go.Proofs.Ytioicmialbimfaa.countAccrues
namespace Go.Proofs.Ytioicmialbimfaa
/-- The row, under a short name, for the claim. -/
theorem countAccrues_holds : Rows.CountAccruesSaid := countAccrues.proved
end Go.Proofs.Ytioicmialbimfaa
end
