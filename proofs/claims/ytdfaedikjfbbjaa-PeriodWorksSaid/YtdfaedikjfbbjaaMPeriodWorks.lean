/- The statement PeriodWorksSaid: for every input the law returns true, and each argument reads afterwards as it read before. Conditions: none. -/
import Derived.Test.YtdfaedikjfbbjaaDayPure
import Derived.Test.YtdfaedikjfbbjaaSxLombardref04To
import Derived.Test.YtdfaedikjfbbjaaSxLombardref04From
import Derived.Test.YtdfaedikjfbbjaaSxLombardref04Weekday
import Derived.Test.YtdfaedikjfbbjaaSx0
import Derived.Test.YtdfaedikjfbbjaaSxPeriodMonths
import Derived.Test.YtdfaedikjfbbjaaSxPeriodDates
import Derived.Test.YtdfaedikjfbbjaaSxPeriodWorks
import Derived.Test.YtdfaedikjfbbjaaSxLombardref06Months
import Derived.Test.YtdfaedikjfbbjaaSxLombardref06Dates
import Derived.Test.YtdfaedikjfbbjaaSxLombardref06Works
import Derived.Test.YtdfaedikjfbbjaaSxPeriodRoll
import Derived.Test.YtdfaedikjfbbjaaSxLombardref06Roll
import Derived.Test.YtdfaedikjfbbjaaSxLombardlaw06Alive
import Derived.Test.YtdfaedikjfbbjaaSxLombardlaw06PeriodWorks
import Derived.SizedLaws
import Derived.ChangeSlices
import Derived.Test.YtdfaedikjfbbjaaRows
import Derived.WalkKit
import Derived.ProofKit
import Derived.OpenShut
import Derived.ShutString
import Derived.ChangeOld
import Derived.Below
section
namespace Go.Proofs.Ytdfaedikjfbbjaa.DayRef
set_option linter.unusedVariables false
set_option linter.unusedSimpArgs false
open Go.RowKit Go.Proofs.Ytdfaedikjfbbjaa.S Go.Proofs.Ytdfaedikjfbbjaa.XNum Go.Proofs.Ytdfaedikjfbbjaa.Cal Go.Proofs.Ytdfaedikjfbbjaa.DayPure Go.Proofs.YtdfaedikjfbbjaaW.PrintWords Go.Proofs.YtdfaedikjfbbjaaW.PrintLast

theorem leap (y : Int) : lombardref04_Leap.f y = some (decide (lp y = 1)) := by
  have z4 : Int.tmod y 4 = 0 ↔ y % 4 = 0 := tm_zero
  have z100 : Int.tmod y 100 = 0 ↔ y % 100 = 0 := tm_zero
  have z400 : (Int.tmod y 400 == 0) = decide (y % 400 = 0) := by
    rw [Bool.eq_iff_iff]
    simp only [beq_iff_eq, decide_eq_true_eq]
    exact tm_zero
  unfold lombardref04_Leap.f lp
  rw [z400]
  by_cases h1 : y % 4 = 0
  · rw [if_pos (z4.2 h1)]
    by_cases h2 : y % 100 = 0
    · rw [if_pos (z100.2 h2)]
      by_cases h3 : y % 400 = 0 <;> simp [h1, h2, h3]
    · rw [if_neg (mt z100.1 h2)]
      simp [h1, h2]
  · rw [if_neg (mt z4.1 h1)]
    have h3 : ¬ y % 400 = 0 := by omega
    simp [h1, h3]

theorem rlast (y m : Int) : lombardref04_Last.f y m = some (last y m) := by
  have hl := lp_01 y
  unfold lombardref04_Last.f
  rw [leap]
  simp only [Option.bind_some]
  by_cases h1 : y < 1
  · rw [if_pos h1]
    unfold last
    rw [if_neg (by omega)]
  rw [if_neg h1]
  by_cases h2 : y > 9999
  · rw [if_pos h2]
    unfold last
    rw [if_neg (by omega)]
  rw [if_neg h2]
  by_cases h3 : m < 1
  · rw [if_pos h3]
    unfold last
    rw [if_neg (by omega)]
  rw [if_neg h3]
  by_cases h4 : m > 12
  · rw [if_pos h4]
    unfold last
    rw [if_neg (by omega)]
  rw [if_neg h4]
  have hd : last y m = dim y m := by
    unfold last
    rw [if_pos (by omega)]
  rw [hd]
  unfold dim
  by_cases h5 : m = 2
  · subst h5
    by_cases c : lp y = 1
    · simp [c]
    · have : lp y = 0 := by omega
      simp [this]
  · simp [h5]

/-- How many days a year's years ahead have. -/
theorem ahead_l (y : Int) (h1 : y ≤ 10000) (d : Nat) : ∀ (k : Nat) (x : Int), 1 ≤ x → x ≤ y → (y - x).toNat = d → d < k → lombardref04_ahead.l0 k y (yd x - 1) x = some (yd y - 1) := by
  induction d with
  | zero =>
    intro k x a b hd hk
    obtain ⟨k, rfl⟩ : ∃ j, k = j + 1 := ⟨k - 1, by omega⟩
    have : x = y := by omega
    subst this
    simp only [lombardref04_ahead.l0]
    rw [if_neg (by omega)]
  | succ d ih =>
    intro k x a b hd hk
    obtain ⟨k, rfl⟩ : ∃ j, k = j + 1 := ⟨k - 1, by omega⟩
    have hl := lp_01 x
    have s := yd_succ x
    have r1 := yd_mono (a := 1) (b := x) a
    have r2 := yd_mono (a := x) (b := 10000) (by omega)
    rw [yd_one] at r1
    rw [yd_top] at r2
    have := ih k (x + 1) (by omega) (by omega) (by omega) (by omega)
    simp only [lombardref04_ahead.l0, leap, Option.bind_some]
    rw [if_pos (by omega), w64 (n := x + 1) (by omega) (by omega), w64 (n := yd x - 1 + 365) (by omega) (by omega), w64 (n := yd x - 1 + 365 + 1) (by omega) (by omega)]
    by_cases c : lp x = 1
    · rw [if_pos (decide_eq_true c), show yd x - 1 + 365 + 1 = yd (x + 1) - 1 by omega]
      exact this
    · have c0 : lp x = 0 := by omega
      rw [if_neg (by simp [c]), show yd x - 1 + 365 = yd (x + 1) - 1 by omega]
      exact this

theorem from_l (y d : Int) (h1 : 1 ≤ y) (h2 : y ≤ 9999) (m : Int) (h3 : 1 ≤ m) (h4 : m ≤ 12) (h5 : 1 ≤ d) (h6 : d ≤ 31) (n : Nat) : ∀ (k : Nat) (x : Int), 1 ≤ x → x ≤ m → (m - x).toNat = n → n < k →
    lombardref04_From.l0 k (num y x 0) x y m d = some (num y m d, 0) := by
  have r1 := yd_mono (a := 1) (b := y) h1
  have r2 := yd_mono (a := y) (b := 10000) (by omega)
  rw [yd_one] at r1
  rw [yd_top] at r2
  have hl := lp_01 y
  induction n with
  | zero =>
    intro k x a b hd hk
    obtain ⟨k, rfl⟩ : ∃ j, k = j + 1 := ⟨k - 1, by omega⟩
    have : x = m := by omega
    subst this
    have q := mo_le y (a := x) (b := 13) (by omega) (by omega) (by omega)
    have q' := mo_le y (a := 1) (b := x) (by omega) (by omega) (by omega)
    rw [mo_13] at q
    rw [mo_one] at q'
    simp only [lombardref04_From.l0]
    rw [if_neg (by omega)]
    have e : num y x 0 + d = num y x d := by unfold num; omega
    rw [e, w64 (by unfold num; omega) (by unfold num; omega)]
  | succ n ih =>
    intro k x a b hd hk
    obtain ⟨k, rfl⟩ : ∃ j, k = j + 1 := ⟨k - 1, by omega⟩
    have s := mo_succ y x (by omega) (by omega)
    have hb := dim_bd y x
    have q := mo_le y (a := x) (b := 13) (by omega) (by omega) (by omega)
    have q' := mo_le y (a := 1) (b := x) (by omega) (by omega) (by omega)
    rw [mo_13] at q
    rw [mo_one] at q'
    have hlast : last y x = dim y x := by
      unfold last
      rw [if_pos (by omega)]
    have e : num y x 0 + dim y x = num y (x + 1) 0 := by unfold num; omega
    have := ih k (x + 1) (by omega) (by omega) (by omega) (by omega)
    simp only [lombardref04_From.l0, rlast, Option.bind_some]
    rw [if_pos (by omega), hlast, e, w64 (n := num y (x + 1) 0) (by rw [← e]; unfold num; omega) (by rw [← e]; unfold num; omega), w64 (n := x + 1) (by omega) (by omega)]
    exact this

theorem from_ok {y m d : Int} (h : ok y m d) (k : Nat) (hk : 20000 ≤ k) : lombardref04_From.f k y m d = some (num y m d, 0) := by
  have h' := ok_last.1 h
  obtain ⟨a, b, c, e, f, g⟩ := h
  have hb := dim_bd y m
  obtain ⟨k, rfl⟩ : ∃ j, k = j + 1 := ⟨k - 1, by omega⟩
  have h1 := ahead_l y (by omega) (y - 1).toNat k 1 (by omega) a rfl (by omega)
  rw [yd_one, show (1 : Int) - 1 = 0 by rfl] at h1
  have h2 := from_l y d a b m c e f (by omega) (m - 1).toNat k 1 (by omega) c rfl (by omega)
  have e0 : num y 1 0 = yd y - 1 := by unfold num; rw [mo_one]; omega
  rw [e0] at h2
  unfold lombardref04_From.f
  rw [if_neg (by omega), rlast]
  simp only [Option.bind_some]
  rw [decide_eq_false (by omega)]
  simp only [lombardref04_From.j0, Bool.false_eq_true, if_false, lombardref04_ahead.f, h1, Option.bind_some, h2]
theorem from_no {y m d : Int} (h : ¬ ok y m d) (k : Nat) (hk : 20000 ≤ k) : lombardref04_From.f k y m d = some (0, 5) := by
  have h' := mt ok_last.2 h
  obtain ⟨k, rfl⟩ : ∃ j, k = j + 1 := ⟨k - 1, by omega⟩
  have t : lombardref04_From.j0 (k + 1) true y m d = some (0, 5) := by simp only [lombardref04_From.j0, if_true]
  unfold lombardref04_From.f
  by_cases c : d < 1
  · rw [if_pos c, t]
  · rw [if_neg c, rlast]
    simp only [Option.bind_some]
    rw [decide_eq_true (by omega), t]

/-- The months' loop. -/
theorem to_l1 (y n : Int) (h1 : 1 ≤ y) (h2 : y ≤ 9999) (hn : n < yd (y + 1)) (d : Nat) : ∀ (k : Nat) (m : Int), 1 ≤ m → m ≤ 12 → (12 - m).toNat = d → d < k → num y m 1 ≤ n →
    ∃ m' d', ok y m' d' ∧ num y m' d' = n ∧ lombardref04_To.l1 k y m (n - num y m 0) = some (y, m', d', 0) := by
  have r1 := yd_mono (a := 1) (b := y) h1
  have r2 := yd_mono (a := y + 1) (b := 10000) (by omega)
  have s' := yd_succ y
  rw [yd_one] at r1
  rw [yd_top] at r2
  have hl := lp_01 y
  induction d with
  | zero =>
    intro k m a b hd hk h5
    obtain ⟨k, rfl⟩ : ∃ j, k = j + 1 := ⟨k - 1, by omega⟩
    have hm : m = 12 := by omega
    subst hm
    have s := mo_succ y 12 (by omega) (by omega)
    have t := mo_13 y
    rw [show (12 : Int) + 1 = 13 by rfl] at s
    have d12 : dim y 12 = 31 := by simp [dim]
    have hlast : last y 12 = dim y 12 := by
      unfold last
      rw [if_pos (by omega)]
    have en : num y 12 0 = yd y + mo y 12 - 1 := by unfold num; omega
    have en1 : num y 12 1 = yd y + mo y 12 := by unfold num; omega
    refine ⟨12, n - num y 12 0, ⟨h1, h2, by omega, by omega, by omega, by omega⟩, by unfold num; omega, ?_⟩
    simp only [lombardref04_To.l1, rlast, Option.bind_some]
    rw [if_neg (by omega)]
  | succ d ih =>
    intro k m a b hd hk h5
    obtain ⟨k, rfl⟩ : ∃ j, k = j + 1 := ⟨k - 1, by omega⟩
    have s := mo_succ y m (by omega) (by omega)
    have hb := dim_bd y m
    have q' := mo_le y (a := 1) (b := m) (by omega) (by omega) (by omega)
    have q := mo_le y (a := m) (b := 13) (by omega) (by omega) (by omega)
    rw [mo_13] at q
    rw [mo_one] at q'
    have hlast : last y m = dim y m := by
      unfold last
      rw [if_pos (by omega)]
    have en : num y m 0 = yd y + mo y m - 1 := by unfold num; omega
    have en1 : num y m 1 = yd y + mo y m := by unfold num; omega
    have en2 : num y (m + 1) 1 = yd y + mo y m + dim y m := by unfold num; omega
    have en3 : num y (m + 1) 0 = yd y + mo y m + dim y m - 1 := by unfold num; omega
    simp only [lombardref04_To.l1, rlast, Option.bind_some]
    rw [hlast]
    by_cases c : n - num y m 0 > dim y m
    · have := ih k (m + 1) (by omega) (by omega) (by omega) (by omega) (by omega)
      rw [if_pos c, w64 (n := m + 1) (by omega) (by omega), w64 (by omega) (by omega), show n - num y m 0 - dim y m = n - num y (m + 1) 0 by omega]
      exact this
    · rw [if_neg c]
      exact ⟨m, n - num y m 0, ⟨h1, h2, a, b, by omega, by omega⟩, by unfold num; omega, rfl⟩

/-- The years' loop. -/
theorem to_l0 (n : Int) (h4 : n ≤ 3652059) (d : Nat) : ∀ (k : Nat) (y : Int), 1 ≤ y → y ≤ 9999 → (9999 - y).toNat = d → d + 20 < k → yd y ≤ n →
    ∃ y' m' d', ok y' m' d' ∧ num y' m' d' = n ∧ lombardref04_To.l0 k y 1 (n - yd y + 1) = some (y', m', d', 0) := by
  have fin : ∀ (k : Nat) (y : Int), 14 ≤ k → 1 ≤ y → y ≤ 9999 → yd y ≤ n → n < yd (y + 1) → ∃ y' m' d', ok y' m' d' ∧ num y' m' d' = n ∧ lombardref04_To.j2 k y 1 (n - yd y + 1) = some (y', m', d', 0) := by
    intro k y hk h1 h2 h3 h5
    obtain ⟨k, rfl⟩ : ∃ j, k = j + 1 := ⟨k - 1, by omega⟩
    obtain ⟨m', d', a, b, c⟩ := to_l1 y n h1 h2 h5 11 k 1 (by omega) (by omega) (by omega) (by omega) (by rw [num_one]; exact h3)
    have e0 : num y 1 0 = yd y - 1 := by unfold num; rw [mo_one]; omega
    rw [e0, show n - (yd y - 1) = n - yd y + 1 by omega] at c
    exact ⟨y, m', d', a, b, by simp only [lombardref04_To.j2]; exact c⟩
  induction d with
  | zero =>
    intro k y h1 h2 hd hk h3
    obtain ⟨k, rfl⟩ : ∃ j, k = j + 1 := ⟨k - 1, by omega⟩
    have hy : y = 9999 := by omega
    subst hy
    have t := yd_top
    have s := yd_succ 9999
    rw [show (9999 : Int) + 1 = 10000 by rfl] at s
    have l9 : lp 9999 = 0 := by decide
    have := fin k 9999 (by omega) (by omega) (by omega) h3 (by show n < yd 10000; omega)
    simp only [lombardref04_To.l0, leap, Option.bind_some]
    rw [l9, if_neg (by decide), if_pos (by omega)]
    exact this
  | succ d ih =>
    intro k y h1 h2 hd hk h3
    obtain ⟨k, rfl⟩ : ∃ j, k = j + 1 := ⟨k - 1, by omega⟩
    have hl := lp_01 y
    have s := yd_succ y
    have r1 := yd_mono (a := 1) (b := y) h1
    have r2 := yd_mono (a := y + 1) (b := 10000) (by omega)
    rw [yd_one] at r1
    rw [yd_top] at r2
    have ih' := fun hh => ih k (y + 1) (by omega) (by omega) (by omega) (by omega) hh
    have fin' := fun hh => fin k y (by omega) h1 h2 h3 hh
    simp only [lombardref04_To.l0, leap, Option.bind_some]
    rw [w64 (n := y + 1) (by omega) (by omega)]
    by_cases c : lp y = 1
    · rw [if_pos (decide_eq_true c)]
      by_cases c2 : n - yd y + 1 ≤ 366
      · rw [if_pos c2]
        exact fin' (by omega)
      · rw [if_neg c2, w64 (by omega) (by omega), show n - yd y + 1 - 366 = n - yd (y + 1) + 1 by omega]
        exact ih' (by omega)
    · have c0 : lp y = 0 := by omega
      rw [if_neg (by simp [c])]
      by_cases c2 : n - yd y + 1 ≤ 365
      · rw [if_pos c2]
        exact fin' (by omega)
      · rw [if_neg c2, w64 (by omega) (by omega), show n - yd y + 1 - 365 = n - yd (y + 1) + 1 by omega]
        exact ih' (by omega)

theorem to_num {y m d : Int} (h : ok y m d) (k : Nat) (hk : 20000 ≤ k) : lombardref04_To.f k (num y m d) = some (y, m, d, 0) := by
  obtain ⟨k, rfl⟩ : ∃ j, k = j + 1 := ⟨k - 1, by omega⟩
  have r := num_range h
  obtain ⟨y', m', d', o, e, f⟩ := to_l0 (num y m d) r.2 9998 k 1 (by omega) (by omega) (by omega) (by omega) (by rw [yd_one]; omega)
  obtain ⟨rfl, rfl, rfl⟩ := num_inj o h e
  rw [yd_one, show num y' m' d' - 1 + 1 = num y' m' d' by omega] at f
  unfold lombardref04_To.f
  rw [if_neg (by omega), decide_eq_false (by omega)]
  simp only [lombardref04_To.j0, Bool.false_eq_true, if_false]
  exact f
theorem to_no {n : Int} (h : n < 1 ∨ 3652059 < n) (k : Nat) (hk : 1 ≤ k) : lombardref04_To.f k n = some (0, 0, 0, 5) := by
  obtain ⟨k, rfl⟩ : ∃ j, k = j + 1 := ⟨k - 1, by omega⟩
  have t : lombardref04_To.j0 (k + 1) n true = some (0, 0, 0, 5) := by simp only [lombardref04_To.j0, if_true]
  unfold lombardref04_To.f
  by_cases c : n < 1
  · rw [if_pos c, t]
  · rw [if_neg c, decide_eq_true (by omega), t]

theorem weekday (n : Int) : lombardref04_Weekday.f n = some ((n + 6) % 7) := by
  unfold lombardref04_Weekday.f
  congr 1
  rw [tm_eq (a := n)]
  split
  · rw [w64 (n := n % 7 - 1) (by omega) (by omega), tm_eq (a := n % 7 - 1)]
    split
    · rw [w64 (by omega) (by omega), tm_nn (by omega)]
      omega
    · rw [w64 (by omega) (by omega), tm_nn (by omega)]
      omega
  · rw [w64 (n := -(-n % 7) - 1) (by omega) (by omega), tm_neg (a := -(-n % 7) - 1) (by omega), w64 (by omega) (by omega), tm_nn (by omega)]
    omega
end Go.Proofs.Ytdfaedikjfbbjaa.DayRef
end

section
namespace Go.Proofs.Ytdfaedikjfbbjaa.S
open Go.RowKit Go.Proofs.YtdfaedikjfbbjaaW.PrintWords Go.Proofs.YtdfaedikjfbbjaaW.PrintLast Go.Proofs.YtdfaedikjfbbjaaW.PrintMore
attribute [local go_sem] max2_int min2_int max_two min_two max_three min_three max_four min_four   -- for this text's walks alone
attribute [local go_sem] Go.Proofs.Ytdfaedikjfbbjaa.XWalk.cell2
set_option linter.unusedVariables false
set_option linter.unusedSimpArgs false

/-! ### lombardref06_Ints: function 34 -/
def lombardref06_Ints.l0 : Nat → List Int → List Int → Int → Int → Option (Bool)
  | 0, _, _, _, _ => none
  | k + 1, x0, x1, x12, x13 => if x13 < x12 then (if 0 ≤ x13 then (if x13 < (x0.length : Int) then (if x13 < (x1.length : Int) then (if (rd x0 x13) = (rd x1 x13) then (lombardref06_Ints.l0 k x0 x1 x12 (wrap64 (x13 + 1))) else (some false)) else (none)) else (none)) else (none)) else (some true)
def lombardref06_Ints.f (k : Nat) (l0 : List Int) (l1 : List Int) : Option (Bool) := if (l0.length : Int) = (l1.length : Int) then (lombardref06_Ints.l0 k l0 l1 (l0.length : Int) 0) else (some false)
theorem lombardref06_Ints.mono_l : ∀ k, (∀ y0 y1 y2 y3, LeO (lombardref06_Ints.l0 k y0 y1 y2 y3) (lombardref06_Ints.l0 (k + 1) y0 y1 y2 y3))
  | 0 => fun _ _ _ _ r h => by simp [lombardref06_Ints.l0] at h
  | k + 1 => by
    have ih0 := lombardref06_Ints.mono_l k
    · intro y0 y1 y2 y3
      unfold lombardref06_Ints.l0
      repeat' first
      | (with_reducible exact ih0 _ _ _ _)
      | (with_reducible exact LeO.refl _)
      | (with_reducible exact LeO.none _)
      | (with_reducible refine LeO.ite ?_ ?_)
      | (with_reducible refine LeO.bind ?_ (fun _ => ?_))
      | exact ih0 _ _ _ _
      | exact LeO.none _
      | refine LeO.ite ?_ ?_
      | refine LeO.bind ?_ (fun _ => ?_)
theorem lombardref06_Ints.mono : ∀ a0 a1 k, LeO (lombardref06_Ints.f k a0 a1) (lombardref06_Ints.f (k + 1) a0 a1) := by
  intro a0 a1 k
  have ih0 := lombardref06_Ints.mono_l k
  unfold lombardref06_Ints.f
  repeat' first
      | (with_reducible exact ih0 _ _ _ _)
      | (with_reducible exact LeO.refl _)
      | (with_reducible exact LeO.none _)
      | (with_reducible refine LeO.ite ?_ ?_)
      | (with_reducible refine LeO.bind ?_ (fun _ => ?_))
      | exact ih0 _ _ _ _
      | exact LeO.none _
      | refine LeO.ite ?_ ?_
      | refine LeO.bind ?_ (fun _ => ?_)
set_option maxHeartbeats 8000000 in
set_option maxRecDepth 100000 in
theorem lombardref06_Ints.calls (k : Nat) (A0 : Option Addr) (c0 : Nat) (l0 : List Int) (A1 : Option Addr) (c1 : Nat) (l1 : List Int) (r : Bool) (w : World) (hr0 : Kd.C (Kd.int .i64) w A0 l0.length l0) (hc0 : l0.length ≤ c0) (hr1 : Kd.C (Kd.int .i64) w A1 l1.length l1) (hc1 : l1.length ≤ c1) (h : lombardref06_Ints.f k l0 l1 = some r) :
    Calls Try.prog 34 #[.slice A0 l0.length c0, .slice A1 l1.length c1] w fun e w' => e = .returned (.bool r) ∧ Drawn0 w w' := by
  have HR0 := Aside0.mk hr0
  have HC0 := Aside0.mk hc0
  clear hr0 hc0
  have HR1 := Aside0.mk hr1
  have HC1 := Aside0.mk hc1
  clear hr1 hc1
  have H : (if (l0.length : Int) = (l1.length : Int) then (lombardref06_Ints.l0 k l0 l1 (l0.length : Int) 0) else (some false)) = some r := h
  clear h
  by_cases c3 : (l0.length : Int) = (l1.length : Int)
  · rw [if_pos c3] at H
    have c3b0 : ((l0.length : Int) == (l1.length : Int)) = true := beq_iff_eq.mpr c3
    have c3b1 : ((l0.length : Int) != (l1.length : Int)) = false := bne_eq_false_iff_eq.mpr c3
    have c3b2 : (l0.length == l1.length) = true := by first | simpa using c3 | (simp at c3 ⊢; omega)
    clear c3
    have H' := Aside0.mk H
    clear H
    go_enter Try.func34, Try.ntmps34
    go_wp2
    repeat (go_quiet (fail); try go_wp2)
    go_loopg [13] k (fun kq v13 w' => ∃ (x13_1 : Int), v13 = .int .i64 x13_1 ∧ Aside0 (lombardref06_Ints.l0 kq l0 l1 (l0.length : Int) x13_1 = some r) ∧ Aside0 (kq ≤ k) ∧ Drawn0 w w')
    case atStart => exact ⟨(0), (by first | rfl | (simp; done) | (simp [*]; done)), H', ⟨Nat.le_refl _⟩, by repeat (first | exact Drawn0.refl _ | apply Drawn0.step)⟩
    case round =>
      clear H'
      try clear c1
      try clear p2
      try clear c3
      try clear c3b0
      try clear c3b1
      try clear c3b2
      obtain ⟨x13_1, rfl, HA, HK1, ⟨m1, rfl⟩⟩ := hrel
      cases gk with
      | zero => exact absurd HA.out (by simp [lombardref06_Ints.l0])
      | succ k1 =>
        have H := HA.out
        clear HA
        simp only [lombardref06_Ints.l0] at H
        by_cases c4 : x13_1 < (l0.length : Int)
        · rw [if_pos c4] at H
          have c4b0 : decide (x13_1 < (l0.length : Int)) = true := decide_eq_true c4
          clear c4
          by_cases c5 : 0 ≤ x13_1
          · rw [if_pos c5] at H
            have c5b0 : decide (0 ≤ x13_1) = true := decide_eq_true c5
            clear c5
            by_cases c6 : x13_1 < (l0.length : Int)
            · rw [if_pos c6] at H
              have c6b0 : decide (x13_1 < (l0.length : Int)) = true := decide_eq_true c6
              clear c6
              by_cases c7 : x13_1 < (l1.length : Int)
              · rw [if_pos c7] at H
                have c7b0 : decide (x13_1 < (l1.length : Int)) = true := decide_eq_true c7
                clear c7
                by_cases c8 : (rd l0 x13_1) = (rd l1 x13_1)
                · rw [if_pos c8] at H
                  have c8b0 : ((rd l0 x13_1) == (rd l1 x13_1)) = true := beq_iff_eq.mpr c8
                  have c8b1 : ((rd l0 x13_1) != (rd l1 x13_1)) = false := bne_eq_false_iff_eq.mpr c8
                  clear c8
                  have H' := Aside0.mk H
                  clear H
                  have p370 : 0 ≤ (x13_1 : Int) := of_decide_eq_true (by first | (with_reducible assumption) | assumption)
                  have q370 : x13_1 < (l0.length : Int) := of_decide_eq_true (by first | (with_reducible assumption) | assumption)
                  obtain ⟨ad370, e370, hx370_0⟩ := Kd.at_int HR0.out x13_1 p370 q370
                  cases e370
                  replace p370 := eq_true p370
                  replace q370 := eq_true q370
                  have p371 : 0 ≤ (x13_1 : Int) := of_decide_eq_true (by first | (with_reducible assumption) | assumption)
                  have q371 : x13_1 < (l1.length : Int) := of_decide_eq_true (by first | (with_reducible assumption) | assumption)
                  obtain ⟨ad371, e371, hx371_0⟩ := Kd.at_int HR1.out x13_1 p371 q371
                  cases e371
                  replace p371 := eq_true p371
                  replace q371 := eq_true q371
                  go_wp2
                  repeat (go_quiet (fail); try go_wp2)
                  go_roundg k1
                  case measure => have := HK1.out; omega
                  case rel => exact ⟨(wrap64 (x13_1 + 1)), (by first | rfl | (simp; done) | (simp [*]; done)), H', ⟨by have := HK1.out; omega⟩, by repeat (first | exact Drawn0.refl _ | apply Drawn0.step)⟩
                · rw [if_neg c8] at H
                  have c8b0 : ((rd l0 x13_1) == (rd l1 x13_1)) = false := beq_eq_false_iff_ne.mpr c8
                  have c8b1 : ((rd l0 x13_1) != (rd l1 x13_1)) = true := bne_iff_ne.mpr c8
                  obtain rfl := Option.some.inj H
                  have p370 : 0 ≤ (x13_1 : Int) := of_decide_eq_true (by first | (with_reducible assumption) | assumption)
                  have q370 : x13_1 < (l0.length : Int) := of_decide_eq_true (by first | (with_reducible assumption) | assumption)
                  obtain ⟨ad370, e370, hx370_0⟩ := Kd.at_int HR0.out x13_1 p370 q370
                  cases e370
                  replace p370 := eq_true p370
                  replace q370 := eq_true q370
                  have p371 : 0 ≤ (x13_1 : Int) := of_decide_eq_true (by first | (with_reducible assumption) | assumption)
                  have q371 : x13_1 < (l1.length : Int) := of_decide_eq_true (by first | (with_reducible assumption) | assumption)
                  obtain ⟨ad371, e371, hx371_0⟩ := Kd.at_int HR1.out x13_1 p371 q371
                  cases e371
                  replace p371 := eq_true p371
                  replace q371 := eq_true q371
                  go_wp2
                  repeat (go_quiet (fail); try go_wp2)
                  go_ret
                  exact ⟨by first | rfl | (simp; done) | (simp [*]; done), by repeat (first | exact Drawn0.refl _ | apply Drawn0.step)⟩
              · rw [if_neg c7] at H
                exact absurd H (by simp)
            · rw [if_neg c6] at H
              exact absurd H (by simp)
          · rw [if_neg c5] at H
            exact absurd H (by simp)
        · rw [if_neg c4] at H
          have c4b0 : decide (x13_1 < (l0.length : Int)) = false := decide_eq_false c4
          clear c4
          obtain rfl := Option.some.inj H
          go_wp2
          repeat (go_quiet (fail); try go_wp2)
          go_ret
          exact ⟨by first | rfl | (simp; done) | (simp [*]; done), by repeat (first | exact Drawn0.refl _ | apply Drawn0.step)⟩
  · rw [if_neg c3] at H
    have c3b0 : ((l0.length : Int) == (l1.length : Int)) = false := beq_eq_false_iff_ne.mpr c3
    have c3b1 : ((l0.length : Int) != (l1.length : Int)) = true := bne_iff_ne.mpr c3
    have c3b2 : (l0.length == l1.length) = false := by first | simpa using c3 | (simp at c3 ⊢; omega)
    obtain rfl := Option.some.inj H
    go_enter Try.func34, Try.ntmps34
    go_wp2
    repeat (go_quiet (fail); try go_wp2)
    go_ret
    exact ⟨by first | rfl | (simp; done) | (simp [*]; done), by repeat (first | exact Drawn0.refl _ | apply Drawn0.step)⟩

end Go.Proofs.Ytdfaedikjfbbjaa.S
end

section
namespace Go.Proofs.Ytdfaedikjfbbjaa.PerPure
set_option linter.unusedVariables false
set_option linter.unusedSimpArgs false
open Go.RowKit Go.Proofs.Ytdfaedikjfbbjaa.S Go.Proofs.Ytdfaedikjfbbjaa.XNum Go.Proofs.Ytdfaedikjfbbjaa.Cal Go.Proofs.Ytdfaedikjfbbjaa.DayPure Go.Proofs.YtdfaedikjfbbjaaW.PrintWords Go.Proofs.YtdfaedikjfbbjaaW.PrintLast

/-- The day months on from a date: its number, and the error. -/
def monthsOf (y m d months : Int) (e : Bool) : Int × Int :=
  let y' := (12 * y + m - 1 + months) / 12
  let m' := (12 * y + m - 1 + months) % 12 + 1
  let most := last y' m'
  let d' := if (e = true ∧ d = dim y m) ∨ d > most then most else d
  if ok y' m' d' then (num y' m' d', 0) else (0, 5)

theorem last_le (y m : Int) : 0 ≤ last y m ∧ last y m ≤ 31 := by
  have := dim_bd y m
  unfold last
  split <;> omega
theorem from_any (y m d : Int) (k : Nat) (hk : 2 ≤ k) : day_From.f k y m d = some (if ok y m d then (num y m d, 0) else (0, 5)) := by
  split
  · exact from_ok (by assumption) k hk
  · exact from_no (by assumption) k hk
theorem rfrom_any (y m d : Int) (k : Nat) (hk : 20000 ≤ k) : lombardref04_From.f k y m d = some (if ok y m d then (num y m d, 0) else (0, 5)) := by
  split
  · exact DayRef.from_ok (by assumption) k hk
  · exact DayRef.from_no (by assumption) k hk
theorem pair_eta (c : Prop) [Decidable c] (a b : Int × Int) : ((if c then a else b).1, (if c then a else b).2) = if c then a else b := rfl

/-- What a call that asks for months on answers. -/
def monthsAll (y m d months : Int) (e : Bool) : Int × Int := if months < -12000 ∨ months > 12000 then (0, 2) else monthsOf y m d months e

theorem months_f {y m d : Int} (h : ok y m d) (months : Int) (e : Bool) (k : Nat) (hk : 20000 ≤ k) :
    period_Months.f k (num y m d) months e = some (monthsAll y m d months e) := by
  have h0 := h
  obtain ⟨a, b, c, f, g, i⟩ := h0
  have hb := dim_bd y m
  unfold period_Months.f monthsAll
  rw [to_num h k hk]
  simp only [Option.bind_some, if_true]
  by_cases c1 : months < -12000
  · rw [if_pos c1, if_pos (.inl c1)]
  rw [if_neg c1]
  by_cases c2 : months > 12000
  · rw [if_pos c2, if_pos (.inr c2)]
  rw [if_neg c2, if_neg (by omega), last_ev y m k (by omega)]
  simp only [Option.bind_some]
  have hlast : last y m = dim y m := by
    unfold last
    rw [if_pos (by omega)]
  rw [hlast, w64 (n := y * 12) (by omega) (by omega), w64 (n := y * 12 + m) (by omega) (by omega), w64 (n := y * 12 + m - 1) (by omega) (by omega), w64 (n := y * 12 + m - 1 + months) (by omega) (by omega)]
  have ea : y * 12 + m - 1 + months = 12 * y + m - 1 + months := by omega
  rw [ea]
  unfold monthsOf
  by_cases c3 : 12 * y + m - 1 + months < 0
  · have hl : last ((12 * y + m - 1 + months) / 12) ((12 * y + m - 1 + months) % 12 + 1) = 0 := by
      unfold last
      rw [if_neg (by omega)]
    rw [if_pos c3]
    dsimp only
    rw [hl, if_pos (c := (e = true ∧ d = dim y m) ∨ d > 0) (.inr (by omega)), if_neg (by unfold ok; omega)]
  rw [if_neg c3]
  rw [td_nn (a := 12 * y + m - 1 + months) (by omega), tm_nn (a := 12 * y + m - 1 + months) (by omega), w64 (n := (12 * y + m - 1 + months) / 12) (by omega) (by omega), w64 (n := (12 * y + m - 1 + months) % 12 + 1) (by omega) (by omega)]
  rw [last_ev _ _ k (by omega)]
  simp only [Option.bind_some, from_any _ _ _ k (show 2 ≤ k by omega), pair_eta]
  generalize last ((12 * y + m - 1 + months) / 12) ((12 * y + m - 1 + months) % 12 + 1) = L
  cases e with
  | true =>
    by_cases c4 : d = dim y m
    · simp [c4]
    · by_cases c5 : d > L
      · simp [c4, c5]
      · simp [c4, c5]
  | false =>
    by_cases c5 : d > L
    · simp [c5]
    · simp [c5]

/-- The document's way: month by month. -/
theorem ref_l1 (d0 : Int) (e lastf : Bool) (hd : 1 ≤ d0) (hd2 : d0 ≤ 31) (all : Int) (h1 : -20000 ≤ all) (h2 : all ≤ 140000) (n : Nat) : ∀ (k : Nat) (x y m : Int), x ≤ 0 → (-x).toNat = n → n + 20001 ≤ k → 1 ≤ m → m ≤ 12 → 12 * y + m - 1 + x = all → -20000 ≤ y → y ≤ 20000 →
    lombardref06_Months.l1 k x e lastf y m d0 = some (let most := last (all / 12) (all % 12 + 1); let d' := if (e = true ∧ lastf = true) ∨ d0 > most then most else d0; if ok (all / 12) (all % 12 + 1) d' then (num (all / 12) (all % 12 + 1) d', 0) else (0, 5)) := by
  induction n with
  | zero =>
    intro k x y m hx hn hk hm1 hm2 ha hy1 hy2
    obtain ⟨k, rfl⟩ : ∃ j, k = j + 1 := ⟨k - 1, by omega⟩
    have hx0 : x = 0 := by omega
    subst hx0
    have ey : all / 12 = y := by omega
    have em : all % 12 + 1 = m := by omega
    rw [ey, em]
    simp only [lombardref06_Months.l1, DayRef.rlast, Option.bind_some, rfrom_any _ _ _ k (show 20000 ≤ k by omega), pair_eta]
    rw [if_neg (by omega)]
    by_cases c : d0 > last y m
    · simp [c]
    · cases e <;> cases lastf <;> simp [c]
  | succ n ih =>
    intro k x y m hx hn hk hm1 hm2 ha hy1 hy2
    obtain ⟨k, rfl⟩ : ∃ j, k = j + 1 := ⟨k - 1, by omega⟩
    simp only [lombardref06_Months.l1]
    rw [if_pos (by omega), w64 (n := m - 1) (by omega) (by omega), w64 (n := x + 1) (by omega) (by omega), w64 (n := y - 1) (by omega) (by omega)]
    by_cases c : m - 1 < 1
    · rw [if_pos c]
      exact ih k (x + 1) (y - 1) 12 (by omega) (by omega) (by omega) (by omega) (by omega) (by omega) (by omega) (by omega)
    · rw [if_neg c]
      exact ih k (x + 1) y (m - 1) (by omega) (by omega) (by omega) (by omega) (by omega) (by omega) (by omega) (by omega)

theorem ref_l0 (d0 : Int) (e lastf : Bool) (hd : 1 ≤ d0) (hd2 : d0 ≤ 31) (all : Int) (h1 : -20000 ≤ all) (h2 : all ≤ 140000) (n : Nat) : ∀ (k : Nat) (x y m : Int), -12000 ≤ x → x ≤ 12000 → x.toNat = n → n + 40010 ≤ k → 1 ≤ m → m ≤ 12 → 12 * y + m - 1 + x = all → 0 ≤ y → y ≤ 20000 →
    lombardref06_Months.l0 k x e lastf y m d0 = some (let most := last (all / 12) (all % 12 + 1); let d' := if (e = true ∧ lastf = true) ∨ d0 > most then most else d0; if ok (all / 12) (all % 12 + 1) d' then (num (all / 12) (all % 12 + 1) d', 0) else (0, 5)) := by
  induction n with
  | zero =>
    intro k x y m hx hx2 hn hk hm1 hm2 ha hy1 hy2
    obtain ⟨k, rfl⟩ : ∃ j, k = j + 1 := ⟨k - 1, by omega⟩
    simp only [lombardref06_Months.l0]
    rw [if_neg (by omega)]
    exact ref_l1 d0 e lastf hd hd2 all h1 h2 (-x).toNat k x y m (by omega) rfl (by omega) hm1 hm2 ha (by omega) (by omega)
  | succ n ih =>
    intro k x y m hx hx2 hn hk hm1 hm2 ha hy1 hy2
    obtain ⟨k, rfl⟩ : ∃ j, k = j + 1 := ⟨k - 1, by omega⟩
    simp only [lombardref06_Months.l0]
    rw [if_pos (by omega), w64 (n := m + 1) (by omega) (by omega), w64 (n := x - 1) (by omega) (by omega), w64 (n := y + 1) (by omega) (by omega)]
    by_cases c : m + 1 > 12
    · rw [if_pos c]
      exact ih k (x - 1) (y + 1) 1 (by omega) (by omega) (by omega) (by omega) (by omega) (by omega) (by omega) (by omega) (by omega)
    · rw [if_neg c]
      exact ih k (x - 1) y (m + 1) (by omega) (by omega) (by omega) (by omega) (by omega) (by omega) (by omega) (by omega) (by omega)

theorem rmonths_f {y m d : Int} (h : ok y m d) (months : Int) (e : Bool) (k : Nat) (hk : 60000 ≤ k) :
    lombardref06_Months.f k (num y m d) months e = some (monthsAll y m d months e) := by
  have h0 := h
  obtain ⟨a, b, c, f, g, i⟩ := h0
  have hb := dim_bd y m
  obtain ⟨k, rfl⟩ : ∃ j, k = j + 1 := ⟨k - 1, by omega⟩
  have t : ∀ y m d, lombardref06_Months.j0 (k + 1) months e true y m d = some (0, 2) := by
    intro y m d
    simp only [lombardref06_Months.j0, if_true]
  unfold lombardref06_Months.f monthsAll
  rw [DayRef.to_num h (k + 1) (by omega)]
  simp only [Option.bind_some, if_true]
  by_cases c1 : months < -12000
  · rw [if_pos c1, if_pos (.inl c1), t]
  rw [if_neg c1]
  by_cases c2 : months > 12000
  · rw [decide_eq_true c2, if_pos (.inr c2), t]
  rw [decide_eq_false c2, if_neg (by omega)]
  simp only [lombardref06_Months.j0, Bool.false_eq_true, if_false, DayRef.rlast, Option.bind_some]
  have hlast : last y m = dim y m := by
    unfold last
    rw [if_pos (by omega)]
  rw [hlast, ref_l0 d e (d == dim y m) (by omega) (by omega) (12 * y + m - 1 + months) (by omega) (by omega) months.toNat k months y m (by omega) (by omega) rfl (by omega) (by omega) (by omega) (by omega) (by omega) (by omega)]
  unfold monthsOf
  simp only [beq_iff_eq]

theorem months_no {n : Int} (h : n < 1 ∨ 3652059 < n) (months : Int) (e : Bool) (k : Nat) (hk : 1 ≤ k) : period_Months.f k n months e = some (0, 5) := by
  unfold period_Months.f
  rw [to_no h k hk]
  simp only [Option.bind_some]
  rw [if_neg (by omega)]
theorem rmonths_no {n : Int} (h : n < 1 ∨ 3652059 < n) (months : Int) (e : Bool) (k : Nat) (hk : 1 ≤ k) : lombardref06_Months.f k n months e = some (0, 5) := by
  unfold lombardref06_Months.f
  rw [DayRef.to_no h k hk]
  simp only [Option.bind_some]
  rw [if_neg (by omega)]

open Classical in
/-- Months on from any day. -/
noncomputable def mon (n months : Int) (e : Bool) : Int × Int :=
  if h : ∃ t : Int × Int × Int, ok t.1 t.2.1 t.2.2 ∧ num t.1 t.2.1 t.2.2 = n then monthsAll h.choose.1 h.choose.2.1 h.choose.2.2 months e else (0, 5)
theorem mon_num {y m d : Int} (h : ok y m d) (months : Int) (e : Bool) : mon (num y m d) months e = monthsAll y m d months e := by
  have hx : ∃ t : Int × Int × Int, ok t.1 t.2.1 t.2.2 ∧ num t.1 t.2.1 t.2.2 = num y m d := ⟨(y, m, d), h, rfl⟩
  unfold mon
  rw [dif_pos hx]
  obtain ⟨e1, e2, e3⟩ := num_inj hx.choose_spec.1 h hx.choose_spec.2
  rw [e1, e2, e3]
theorem mon_no {n : Int} (h : n < 1 ∨ 3652059 < n) (months : Int) (e : Bool) : mon n months e = (0, 5) := by
  unfold mon
  rw [dif_neg]
  rintro ⟨t, ht, rfl⟩
  have := num_range ht
  omega
theorem months_any (n months : Int) (e : Bool) (k : Nat) (hk : 20000 ≤ k) : period_Months.f k n months e = some (mon n months e) := by
  by_cases c : 1 ≤ n ∧ n ≤ 3652059
  · obtain ⟨y, m, d, o, rfl⟩ := date_of n c.1 c.2
    rw [mon_num o, months_f o months e k hk]
  · rw [mon_no (by omega), months_no (by omega) months e k (by omega)]
theorem rmonths_any (n months : Int) (e : Bool) (k : Nat) (hk : 60000 ≤ k) : lombardref06_Months.f k n months e = some (mon n months e) := by
  by_cases c : 1 ≤ n ∧ n ≤ 3652059
  · obtain ⟨y, m, d, o, rfl⟩ := date_of n c.1 c.2
    rw [mon_num o, rmonths_f o months e k hk]
  · rw [mon_no (by omega), rmonths_no (by omega) months e k (by omega)]

/-- A row of days: so many more, from the i-th one on; what has been gathered. -/
def row (g : Int → Int × Int) : Nat → Int → List Int → List Int × Int
  | 0, _, acc => (acc, 0)
  | r + 1, i, acc => if (g i).2 = 0 then row g r (i + 1) (acc ++ [(g i).1]) else ([], (g i).2)

theorem dates_l0 (n step : Int) (e : Bool) (times : Int) (hs : 1 ≤ step) (hs2 : step ≤ 12) (ht : 0 ≤ times) (ht2 : times ≤ 600) (r : Nat) : ∀ (k : Nat) (i : Int) (acc : List Int), 0 ≤ i → i ≤ times → (times - i).toNat = r → r + 20001 ≤ k → acc.length ≤ 600 - r →
    period_Dates.l0 k n step e acc times i = some (row (fun j => mon n (j * step) e) r (i + 1) acc) := by
  induction r with
  | zero =>
    intro k i acc h1 h2 hr hk ha
    obtain ⟨k, rfl⟩ : ∃ j, k = j + 1 := ⟨k - 1, by omega⟩
    simp only [period_Dates.l0, row]
    rw [if_neg (by omega)]
  | succ r ih =>
    intro k i acc h1 h2 hr hk ha
    obtain ⟨k, rfl⟩ : ∃ j, k = j + 1 := ⟨k - 1, by omega⟩
    have b1 : 0 ≤ (i + 1) * step := Int.mul_nonneg (by omega) (by omega)
    have b2 : (i + 1) * step ≤ 601 * 12 := Int.mul_le_mul (by omega) hs2 (by omega) (by omega)
    simp only [period_Dates.l0, row]
    rw [if_pos (by omega), w64 (n := i + 1) (by omega) (by omega), w64 (n := (i + 1) * step) (by omega) (by omega), months_any _ _ _ k (by omega)]
    simp only [Option.bind_some]
    split
    · rw [if_pos (by omega)]
      exact ih k (i + 1) _ (by omega) (by omega) (by omega) (by omega) (by simp; omega)
    · rfl

theorem rdates_l0 (n step : Int) (e : Bool) (times : Int) (hs : 1 ≤ step) (hs2 : step ≤ 12) (ht : 0 ≤ times) (ht2 : times ≤ 600) (r : Nat) : ∀ (k : Nat) (i : Int) (acc : List Int), 1 ≤ i → i ≤ times + 1 → (times + 1 - i).toNat = r → r + 60001 ≤ k → acc.length ≤ 600 - r →
    lombardref06_Dates.l0 k n step times e acc i = some (row (fun j => mon n (j * step) e) r i acc) := by
  induction r with
  | zero =>
    intro k i acc h1 h2 hr hk ha
    obtain ⟨k, rfl⟩ : ∃ j, k = j + 1 := ⟨k - 1, by omega⟩
    simp only [lombardref06_Dates.l0, row]
    rw [if_neg (by omega)]
  | succ r ih =>
    intro k i acc h1 h2 hr hk ha
    obtain ⟨k, rfl⟩ : ∃ j, k = j + 1 := ⟨k - 1, by omega⟩
    have b1 : 0 ≤ i * step := Int.mul_nonneg (by omega) (by omega)
    have b2 : i * step ≤ 601 * 12 := Int.mul_le_mul (by omega) hs2 (by omega) (by omega)
    simp only [lombardref06_Dates.l0, row]
    rw [if_pos (by omega), w64 (n := i * step) (by omega) (by omega), rmonths_any _ _ _ k (by omega)]
    simp only [Option.bind_some]
    split
    · rw [if_pos (by omega), w64 (n := i + 1) (by omega) (by omega)]
      exact ih k (i + 1) _ (by omega) (by omega) (by omega) (by omega) (by simp; omega)
    · rfl

/-- What a call that asks for a row answers. -/
noncomputable def rowOf (n step times : Int) (e : Bool) : List Int × Int :=
  if 1 ≤ step ∧ step ≤ 12 ∧ 0 ≤ times ∧ times ≤ 600 then row (fun j => mon n (j * step) e) times.toNat 1 [] else ([], 2)

theorem dates_any (n step times : Int) (e : Bool) (k : Nat) (hk : 30000 ≤ k) : period_Dates.f k n step times e = some (rowOf n step times e) := by
  obtain ⟨k, rfl⟩ : ∃ j, k = j + 1 := ⟨k - 1, by omega⟩
  have t : period_Dates.j0 (k + 1) n step times e true = some ([], 2) := by simp only [period_Dates.j0, if_true]
  unfold period_Dates.f rowOf
  by_cases c1 : step < 1
  · rw [if_pos c1, t, if_neg (by omega)]
  rw [if_neg c1]
  by_cases c2 : step > 12
  · rw [if_pos c2, t, if_neg (by omega)]
  rw [if_neg c2]
  by_cases c3 : times < 0
  · rw [if_pos c3, t, if_neg (by omega)]
  rw [if_neg c3]
  by_cases c4 : times > 600
  · rw [decide_eq_true c4, t, if_neg (by omega)]
  rw [decide_eq_false c4, if_pos (by omega)]
  simp only [period_Dates.j0, Bool.false_eq_true, if_false]
  exact dates_l0 n step e times (by omega) (by omega) (by omega) (by omega) times.toNat k 0 [] (by omega) (by omega) (by omega) (by omega) (by simp)
theorem rdates_any (n step times : Int) (e : Bool) (k : Nat) (hk : 70000 ≤ k) : lombardref06_Dates.f k n step times e = some (rowOf n step times e) := by
  obtain ⟨k, rfl⟩ : ∃ j, k = j + 1 := ⟨k - 1, by omega⟩
  have t : lombardref06_Dates.j0 (k + 1) n step times e true = some ([], 2) := by simp only [lombardref06_Dates.j0, if_true]
  unfold lombardref06_Dates.f rowOf
  by_cases c1 : step < 1
  · rw [if_pos c1, t, if_neg (by omega)]
  rw [if_neg c1]
  by_cases c2 : step > 12
  · rw [if_pos c2, t, if_neg (by omega)]
  rw [if_neg c2]
  by_cases c3 : times < 0
  · rw [if_pos c3, t, if_neg (by omega)]
  rw [if_neg c3]
  by_cases c4 : times > 600
  · rw [decide_eq_true c4, t, if_neg (by omega)]
  rw [decide_eq_false c4, if_pos (by omega)]
  simp only [lombardref06_Dates.j0, Bool.false_eq_true, if_false]
  exact rdates_l0 n step e times (by omega) (by omega) (by omega) (by omega) times.toNat k 1 [] (by omega) (by omega) (by omega) (by omega) (by simp)

/-- The same numbers. -/
theorem ints_l0 (l m : List Int) (hl : l.length = m.length) (hm : (l.length : Int) ≤ 9223372036854775807) (d : Nat) : ∀ (k : Nat) (i : Int), 0 ≤ i → i ≤ l.length → ((l.length : Int) - i).toNat = d → d < k →
    lombardref06_Ints.l0 k l m l.length i = some (decide (l.drop i.toNat = m.drop i.toNat)) := by
  induction d with
  | zero =>
    intro k i h1 h2 hd hk
    obtain ⟨k, rfl⟩ : ∃ j, k = j + 1 := ⟨k - 1, by omega⟩
    simp only [lombardref06_Ints.l0]
    rw [if_neg (by omega), List.drop_eq_nil_of_le (by omega), List.drop_eq_nil_of_le (by omega)]
    simp
  | succ d ih =>
    intro k i h1 h2 hd hk
    obtain ⟨k, rfl⟩ : ∃ j, k = j + 1 := ⟨k - 1, by omega⟩
    have hi : i.toNat < l.length := by omega
    have hi2 : i.toNat < m.length := by omega
    simp only [lombardref06_Ints.l0]
    rw [if_pos (by omega), if_pos h1, if_pos (by omega), if_pos (by omega), List.drop_eq_getElem_cons hi, List.drop_eq_getElem_cons hi2]
    have r1 : rd l i = l[i.toNat] := by
      unfold rd
      simp [List.getD_eq_getElem?_getD, hi]
    have r2 : rd m i = m[i.toNat] := by
      unfold rd
      simp [List.getD_eq_getElem?_getD, hi2]
    rw [r1, r2]
    by_cases c : l[i.toNat] = m[i.toNat]
    · rw [if_pos c, w64 (by omega) (by omega), ih k (i + 1) (by omega) (by omega) (by omega) (by omega), show (i + 1).toNat = i.toNat + 1 by omega]
      congr 1
      rw [decide_eq_decide, List.cons.injEq]
      exact ⟨fun h => ⟨c, h⟩, fun h => h.2⟩
    · rw [if_neg c]
      congr 1
      rw [eq_comm, decide_eq_false_iff_not, List.cons.injEq]
      exact fun h => c h.1
theorem ints_any (l m : List Int) (hm : (l.length : Int) ≤ 9223372036854775807) (k : Nat) (hk : l.length < k) : lombardref06_Ints.f k l m = some (decide (l = m)) := by
  unfold lombardref06_Ints.f
  by_cases c : (l.length : Int) = (m.length : Int)
  · rw [if_pos c, ints_l0 l m (by omega) hm l.length k 0 (by omega) (by omega) (by omega) hk]
    simp
  · rw [if_neg c]
    have : ¬ l = m := fun h => c (by rw [h])
    simp [this]

/-- Is a number among others? -/
theorem index_l0 (l : List Int) (x : Int) (hm : (l.length : Int) ≤ 9223372036854775807) (d : Nat) : ∀ (k : Nat) (i : Int), 0 ≤ i → i ≤ l.length → ((l.length : Int) - i).toNat = d → d < k →
    ∃ r, slices_Index_int_int.l0 k l x l.length i = some r ∧ (0 ≤ r ↔ x ∈ l.drop i.toNat) := by
  induction d with
  | zero =>
    intro k i h1 h2 hd hk
    obtain ⟨k, rfl⟩ : ∃ j, k = j + 1 := ⟨k - 1, by omega⟩
    refine ⟨-1, ?_, ?_⟩
    · simp only [slices_Index_int_int.l0]
      rw [if_neg (by omega)]
    · rw [List.drop_eq_nil_of_le (by omega)]
      simp
  | succ d ih =>
    intro k i h1 h2 hd hk
    obtain ⟨k, rfl⟩ : ∃ j, k = j + 1 := ⟨k - 1, by omega⟩
    have hi : i.toNat < l.length := by omega
    have r1 : rd l i = l[i.toNat] := by
      unfold rd
      simp [List.getD_eq_getElem?_getD, hi]
    simp only [slices_Index_int_int.l0]
    rw [if_pos (by omega), if_pos h1, if_pos (by omega), r1, List.drop_eq_getElem_cons hi]
    by_cases c : x = l[i.toNat]
    · exact ⟨i, by rw [if_pos c], fun _ => by rw [c]; exact List.mem_cons_self, fun _ => h1⟩
    · obtain ⟨r, hr, h⟩ := ih k (i + 1) (by omega) (by omega) (by omega) (by omega)
      refine ⟨r, by rw [if_neg c, w64 (by omega) (by omega)]; exact hr, ?_⟩
      rw [h, show (i + 1).toNat = i.toNat + 1 by omega, List.mem_cons]
      simp [c]
theorem contains_any (l : List Int) (x : Int) (hm : (l.length : Int) ≤ 9223372036854775807) (k : Nat) (hk : l.length < k) : slices_Contains_int_int.f k l x = some (decide (x ∈ l)) := by
  obtain ⟨r, hr, h⟩ := index_l0 l x hm l.length k 0 (by omega) (by omega) (by omega) hk
  unfold slices_Contains_int_int.f slices_Index_int_int.f
  rw [hr]
  simp only [Option.bind_some]
  congr 1
  rw [decide_eq_decide]
  simpa using h

/-- Does a day work? -/
def work (l : List Int) (n : Int) : Bool := decide ((n + 6) % 7 < 5 ∧ n ∉ l)
theorem works_any (n : Int) (l : List Int) (hm : (l.length : Int) ≤ 9223372036854775807) (k : Nat) (hk : l.length < k) : period_Works.f k n l = some (work l n) := by
  unfold period_Works.f work
  rw [weekday, contains_any l n hm k hk]
  simp only [Option.bind_some]
  by_cases c : (n + 6) % 7 < 5
  · rw [if_pos c]
    by_cases c2 : n ∈ l <;> simp [c, c2]
  · rw [if_neg c]
    simp [c]
theorem rworks_l0 (l : List Int) (x : Int) (hm : (l.length : Int) ≤ 9223372036854775807) (d : Nat) : ∀ (k : Nat) (i : Int), 0 ≤ i → i ≤ l.length → ((l.length : Int) - i).toNat = d → d < k →
    lombardref06_Works.l0 k x l l.length i = some (decide (x ∉ l.drop i.toNat)) := by
  induction d with
  | zero =>
    intro k i h1 h2 hd hk
    obtain ⟨k, rfl⟩ : ∃ j, k = j + 1 := ⟨k - 1, by omega⟩
    simp only [lombardref06_Works.l0]
    rw [if_neg (by omega), List.drop_eq_nil_of_le (by omega)]
    simp
  | succ d ih =>
    intro k i h1 h2 hd hk
    obtain ⟨k, rfl⟩ : ∃ j, k = j + 1 := ⟨k - 1, by omega⟩
    have hi : i.toNat < l.length := by omega
    have r1 : rd l i = l[i.toNat] := by
      unfold rd
      simp [List.getD_eq_getElem?_getD, hi]
    simp only [lombardref06_Works.l0]
    rw [if_pos (by omega), if_pos h1, if_pos (by omega), r1, List.drop_eq_getElem_cons hi]
    by_cases c : l[i.toNat] = x
    · rw [if_pos c]
      simp [c]
    · rw [if_neg c, w64 (by omega) (by omega), ih k (i + 1) (by omega) (by omega) (by omega) (by omega), show (i + 1).toNat = i.toNat + 1 by omega]
      congr 1
      rw [decide_eq_decide, List.mem_cons]
      exact ⟨fun h h2 => h2.elim (fun h3 => c h3.symm) h, fun h h2 => h (.inr h2)⟩
theorem rworks_any (n : Int) (l : List Int) (hm : (l.length : Int) ≤ 9223372036854775807) (k : Nat) (hk : l.length < k) : lombardref06_Works.f k n l = some (work l n) := by
  unfold lombardref06_Works.f work
  rw [DayRef.weekday]
  simp only [Option.bind_some]
  by_cases c : (n + 6) % 7 < 5
  · rw [if_neg (by omega), rworks_l0 l n hm l.length k 0 (by omega) (by omega) (by omega) hk]
    simp [c]
  · rw [if_pos (by omega)]
    simp [c]
end Go.Proofs.Ytdfaedikjfbbjaa.PerPure
end

section
namespace Go.Proofs.Ytdfaedikjfbbjaa.PerRoll
set_option linter.unusedVariables false
set_option linter.unusedSimpArgs false
open Go.RowKit Go.Proofs.Ytdfaedikjfbbjaa.S Go.Proofs.Ytdfaedikjfbbjaa.XNum Go.Proofs.Ytdfaedikjfbbjaa.Cal Go.Proofs.Ytdfaedikjfbbjaa.DayPure Go.Proofs.Ytdfaedikjfbbjaa.PerPure Go.Proofs.YtdfaedikjfbbjaaW.PrintWords Go.Proofs.YtdfaedikjfbbjaaW.PrintLast

def up (l : List Int) : Nat → Int → Option Int
  | 0, _ => none
  | d + 1, at_ => if work l at_ = true then some at_ else up l d (at_ + 1)
def dn (l : List Int) : Nat → Int → Option Int
  | 0, _ => none
  | d + 1, at_ => if work l at_ = true then some at_ else dn l d (at_ - 1)
/-- The next day that works, and the last one. -/
def next (l : List Int) (n : Int) : Option Int := up l (3652060 - n).toNat n
def prev (l : List Int) (n : Int) : Option Int := dn l n.toNat n
def res : Option Int → Int × Int
  | some m => (m, 0)
  | none => (0, 5)

theorem up_some {l : List Int} {d : Nat} : ∀ {at_ m : Int}, up l d at_ = some m → at_ ≤ m ∧ m < at_ + d ∧ work l m = true ∧ ∀ j, at_ ≤ j → j < m → work l j = false := by
  induction d with
  | zero => intro at_ m h; simp [up] at h
  | succ d ih =>
    intro at_ m h
    simp only [up] at h
    by_cases c : work l at_ = true
    · rw [if_pos c] at h
      obtain rfl := Option.some.inj h
      exact ⟨by omega, by omega, c, fun j h1 h2 => by omega⟩
    · rw [if_neg c] at h
      obtain ⟨h1, h2, h3, h4⟩ := ih h
      refine ⟨by omega, by omega, h3, fun j j1 j2 => ?_⟩
      by_cases e : j = at_
      · subst e
        exact Bool.eq_false_iff.mpr c
      · exact h4 j (by omega) j2
theorem up_none {l : List Int} {d : Nat} : ∀ {at_ : Int}, up l d at_ = none → ∀ j, at_ ≤ j → j < at_ + d → work l j = false := by
  induction d with
  | zero => intro at_ h j h1 h2; omega
  | succ d ih =>
    intro at_ h j h1 h2
    simp only [up] at h
    by_cases c : work l at_ = true
    · rw [if_pos c] at h
      cases h
    · rw [if_neg c] at h
      by_cases e : j = at_
      · subst e
        exact Bool.eq_false_iff.mpr c
      · exact ih h j (by omega) (by omega)
theorem dn_some {l : List Int} {d : Nat} : ∀ {at_ m : Int}, dn l d at_ = some m → m ≤ at_ ∧ at_ < m + d ∧ work l m = true ∧ ∀ j, m < j → j ≤ at_ → work l j = false := by
  induction d with
  | zero => intro at_ m h; simp [dn] at h
  | succ d ih =>
    intro at_ m h
    simp only [dn] at h
    by_cases c : work l at_ = true
    · rw [if_pos c] at h
      obtain rfl := Option.some.inj h
      exact ⟨by omega, by omega, c, fun j h1 h2 => by omega⟩
    · rw [if_neg c] at h
      obtain ⟨h1, h2, h3, h4⟩ := ih h
      refine ⟨by omega, by omega, h3, fun j j1 j2 => ?_⟩
      by_cases e : j = at_
      · subst e
        exact Bool.eq_false_iff.mpr c
      · exact h4 j j1 (by omega)
theorem dn_none {l : List Int} {d : Nat} : ∀ {at_ : Int}, dn l d at_ = none → ∀ j, at_ - d < j → j ≤ at_ → work l j = false := by
  induction d with
  | zero => intro at_ h j h1 h2; omega
  | succ d ih =>
    intro at_ h j h1 h2
    simp only [dn] at h
    by_cases c : work l at_ = true
    · rw [if_pos c] at h
      cases h
    · rw [if_neg c] at h
      by_cases e : j = at_
      · subst e
        exact Bool.eq_false_iff.mpr c
      · exact ih h j (by omega) (by omega)

/-- The program's search, in both directions. -/
theorem seek_up (n : Int) (l : List Int) (hm : (l.length : Int) ≤ 9223372036854775807) (d : Nat) : ∀ (k : Nat) (at_ : Int), 1 ≤ at_ → at_ ≤ 3652060 → (3652060 - at_).toNat = d → d + l.length + 20002 ≤ k →
    (up l d at_ = none → period_Roll_1.l0 k 1 at_ l = some (0, 0, 0, 0, 5)) ∧ (∀ y m dd, ok y m dd → up l d at_ = some (num y m dd) → period_Roll_1.l0 k 1 at_ l = some (y, m, dd, num y m dd, 0)) := by
  induction d with
  | zero =>
    intro k at_ h1 h2 hd hk
    obtain ⟨k, rfl⟩ : ∃ j, k = j + 1 := ⟨k - 1, by omega⟩
    refine ⟨fun _ => ?_, fun y m dd o h => by simp [up] at h⟩
    simp only [period_Roll_1.l0]
    rw [to_no (by omega) k (by omega)]
    simp
  | succ d ih =>
    intro k at_ h1 h2 hd hk
    obtain ⟨k, rfl⟩ : ∃ j, k = j + 1 := ⟨k - 1, by omega⟩
    have ih' := ih k (at_ + 1) (by omega) (by omega) (by omega) (by omega)
    obtain ⟨y0, m0, d0, o0, e0, f0⟩ := to_ok (n := at_) h1 (by omega)
    simp only [period_Roll_1.l0, up]
    rw [f0 k (by omega)]
    simp only [Option.bind_some, if_true]
    rw [works_any at_ l hm k (by omega)]
    simp only [Option.bind_some]
    rw [w64 (n := at_ + 1) (by omega) (by omega)]
    by_cases c : work l at_ = true
    · rw [if_pos c, if_pos c]
      refine ⟨(fun h => nomatch h), fun y m dd o h => ?_⟩
      obtain ⟨rfl, rfl, rfl⟩ := num_inj o0 o (by rw [e0]; exact Option.some.inj h)
      rw [e0]
    · rw [if_neg c, if_neg c]
      exact ih'
theorem seek_dn (n : Int) (l : List Int) (hm : (l.length : Int) ≤ 9223372036854775807) (d : Nat) : ∀ (k : Nat) (at_ : Int), 0 ≤ at_ → at_ ≤ 3652059 → at_.toNat = d → d + l.length + 20002 ≤ k →
    (dn l d at_ = none → period_Roll_1.l0 k (-1) at_ l = some (0, 0, 0, 0, 5)) ∧ (∀ y m dd, ok y m dd → dn l d at_ = some (num y m dd) → period_Roll_1.l0 k (-1) at_ l = some (y, m, dd, num y m dd, 0)) := by
  induction d with
  | zero =>
    intro k at_ h1 h2 hd hk
    obtain ⟨k, rfl⟩ : ∃ j, k = j + 1 := ⟨k - 1, by omega⟩
    refine ⟨fun _ => ?_, fun y m dd o h => by simp [dn] at h⟩
    simp only [period_Roll_1.l0]
    rw [to_no (by omega) k (by omega)]
    simp
  | succ d ih =>
    intro k at_ h1 h2 hd hk
    obtain ⟨k, rfl⟩ : ∃ j, k = j + 1 := ⟨k - 1, by omega⟩
    have ih' := ih k (at_ - 1) (by omega) (by omega) (by omega) (by omega)
    obtain ⟨y0, m0, d0, o0, e0, f0⟩ := to_ok (n := at_) (by omega) (by omega)
    simp only [period_Roll_1.l0, dn]
    rw [f0 k (by omega)]
    simp only [Option.bind_some, if_true]
    rw [works_any at_ l hm k (by omega)]
    simp only [Option.bind_some]
    rw [show at_ + -1 = at_ - 1 by omega, w64 (n := at_ - 1) (by omega) (by omega)]
    by_cases c : work l at_ = true
    · rw [if_pos c, if_pos c]
      refine ⟨(fun h => nomatch h), fun y m dd o h => ?_⟩
      obtain ⟨rfl, rfl, rfl⟩ := num_inj o0 o (by rw [e0]; exact Option.some.inj h)
      rw [e0]
    · rw [if_neg c, if_neg c]
      exact ih'
/-- The document's. -/
theorem rseek_up (l : List Int) (hm : (l.length : Int) ≤ 9223372036854775807) (d : Nat) : ∀ (k : Nat) (at_ : Int), 1 ≤ at_ → at_ ≤ 3652060 → (3652060 - at_).toNat = d → 2 * d + l.length + 10 ≤ k → lombardref06_seek.l0 k at_ 1 l = some ((up l d at_).getD 0) := by
  induction d with
  | zero =>
    intro k at_ h1 h2 hd hk
    obtain ⟨k, rfl⟩ : ∃ j, k = j + 2 := ⟨k - 2, by omega⟩
    simp only [lombardref06_seek.l0, lombardref06_seek.j1, up]
    rw [if_pos (by omega), if_neg (by rw [decide_eq_true_eq]; omega)]
    rfl
  | succ d ih =>
    intro k at_ h1 h2 hd hk
    obtain ⟨k, rfl⟩ : ∃ j, k = j + 2 := ⟨k - 2, by omega⟩
    have ih' := ih k (at_ + 1) (by omega) (by omega) (by omega) (by omega)
    simp only [lombardref06_seek.l0, lombardref06_seek.j1, up]
    rw [if_pos (by omega), if_pos (by rw [decide_eq_true_eq]; omega), rworks_any at_ l hm k (by omega)]
    simp only [Option.bind_some]
    rw [w64 (n := at_ + 1) (by omega) (by omega)]
    by_cases c : work l at_ = true
    · rw [if_pos c, if_pos c]
      rfl
    · rw [if_neg c, if_neg c]
      exact ih'
theorem rseek_dn (l : List Int) (hm : (l.length : Int) ≤ 9223372036854775807) (d : Nat) : ∀ (k : Nat) (at_ : Int), 0 ≤ at_ → at_ ≤ 3652059 → at_.toNat = d → 2 * d + l.length + 10 ≤ k → lombardref06_seek.l0 k at_ (-1) l = some ((dn l d at_).getD 0) := by
  induction d with
  | zero =>
    intro k at_ h1 h2 hd hk
    obtain ⟨k, rfl⟩ : ∃ j, k = j + 2 := ⟨k - 2, by omega⟩
    simp only [lombardref06_seek.l0, lombardref06_seek.j1, dn]
    rw [if_neg (by omega), if_neg (by decide)]
    rfl
  | succ d ih =>
    intro k at_ h1 h2 hd hk
    obtain ⟨k, rfl⟩ : ∃ j, k = j + 2 := ⟨k - 2, by omega⟩
    have ih' := ih k (at_ - 1) (by omega) (by omega) (by omega) (by omega)
    simp only [lombardref06_seek.l0, lombardref06_seek.j1, dn]
    rw [if_pos (by omega), if_pos (by rw [decide_eq_true_eq]; omega), rworks_any at_ l hm k (by omega)]
    simp only [Option.bind_some]
    rw [show at_ + -1 = at_ - 1 by omega, w64 (n := at_ - 1) (by omega) (by omega)]
    by_cases c : work l at_ = true
    · rw [if_pos c, if_pos c]
      rfl
    · rw [if_neg c, if_neg c]
      exact ih'

theorem next_bd {l : List Int} {n m : Int} (h1 : 1 ≤ n) (h2 : n ≤ 3652059) (h : next l n = some m) : n ≤ m ∧ m ≤ 3652059 ∧ work l m = true ∧ ∀ j, n ≤ j → j < m → work l j = false := by
  obtain ⟨a, b, c, d⟩ := up_some h
  exact ⟨a, by omega, c, d⟩
theorem prev_bd {l : List Int} {n m : Int} (h1 : 1 ≤ n) (h2 : n ≤ 3652059) (h : prev l n = some m) : 1 ≤ m ∧ m ≤ n ∧ work l m = true ∧ ∀ j, m < j → j ≤ n → work l j = false := by
  obtain ⟨a, b, c, d⟩ := dn_some h
  exact ⟨by omega, a, c, d⟩
theorem next_none {l : List Int} {n : Int} (h1 : 1 ≤ n) (h2 : n ≤ 3652059) (h : next l n = none) : ∀ j, n ≤ j → j ≤ 3652059 → work l j = false := fun j a b => up_none h j a (by omega)
theorem prev_none {l : List Int} {n : Int} (h1 : 1 ≤ n) (h2 : n ≤ 3652059) (h : prev l n = none) : ∀ j, 1 ≤ j → j ≤ n → work l j = false := fun j a b => dn_none h j (by omega) b

/-- What the search down answers, but for the date. -/
theorem down_f (n : Int) (l : List Int) (hm : (l.length : Int) ≤ 1000) (h1 : 1 ≤ n) (h2 : n ≤ 3652059) (k : Nat) (hk : 4000000 ≤ k) : ∃ a b c, period_Roll_1.f k (-1) n l = some (a, b, c, (res (prev l n)).1, (res (prev l n)).2) := by
  unfold period_Roll_1.f
  have s := seek_dn n l (by omega) n.toNat k n (by omega) (by omega) rfl (by omega)
  cases hp : prev l n with
  | none => exact ⟨0, 0, 0, s.1 hp⟩
  | some m =>
    obtain ⟨a, b, _⟩ := prev_bd h1 h2 hp
    obtain ⟨y, mo, d, o, rfl⟩ := date_of m a (by omega)
    exact ⟨y, mo, d, s.2 y mo d o hp⟩

/-- In whose place which day is taken. -/
theorem roll_f {y m d : Int} (o : ok y m d) (way : Int) (l : List Int) (hm : (l.length : Int) ≤ 1000) (k : Nat) (hk : 8000000 ≤ k) :
    period_Roll.f k (num y m d) way l = lombardref06_Roll.f k (num y m d) way l ∧
    ((l.length : Int) ≤ 600 → period_Roll.f k (num y m d) 0 l = some (num y m d, 0) ∧ period_Roll.f k (num y m d) 1 l = some (res (next l (num y m d))) ∧ period_Roll.f k (num y m d) 3 l = some (res (prev l (num y m d))) ∧
      (next l (num y m d) = none → period_Roll.f k (num y m d) 2 l = some (res (prev l (num y m d)))) ∧
      (∀ y' m' d', ok y' m' d' → next l (num y m d) = some (num y' m' d') → period_Roll.f k (num y m d) 2 l = some (if y' = y ∧ m' = m then (num y' m' d', 0) else res (prev l (num y m d))))) := by
  obtain ⟨k, rfl⟩ : ∃ j, k = j + 4 := ⟨k - 4, by omega⟩
  have r := num_range o
  have t0 := to_num o (k + 4) (by omega)
  have t1 := DayRef.to_num o (k + 4) (by omega)
  obtain ⟨a0, b0, c0, hdn⟩ := down_f (num y m d) l hm r.1 r.2 (k + 3) (by omega)
  have hup := seek_up (num y m d) l (by omega) (3652060 - num y m d).toNat (k + 3) (num y m d) (by omega) (by omega) rfl (by omega)
  have ru := rseek_up l (by omega) (3652060 - num y m d).toNat (k + 2) (num y m d) (by omega) (by omega) rfl (by omega)
  have rd_ := rseek_dn l (by omega) (num y m d).toNat (k + 2) (num y m d) (by omega) (by omega) rfl (by omega)
  have hw := rworks_any (num y m d) l (by omega) (k + 3) (by omega)
  have hj : ∀ w, period_Roll.j0 (k + 4) w true (num y m d) l y m d = some (0, 2) := by
    intro w
    simp only [period_Roll.j0, if_true]
  have rj : ∀ w, lombardref06_Roll.j0 (k + 4) (num y m d) w l true y m d = some (0, 2) := by
    intro w
    simp only [lombardref06_Roll.j0, if_true]
  -- what the program's way answers, the errors aside
  have p0 : period_Roll.j0 (k + 4) 0 false (num y m d) l y m d = some (num y m d, 0) := by simp [period_Roll.j0]
  have p3 : period_Roll.j0 (k + 4) 3 false (num y m d) l y m d = some (res (prev l (num y m d))) := by
    simp only [period_Roll.j0]
    simp [hdn]
  have p1 : period_Roll.j0 (k + 4) 1 false (num y m d) l y m d = some (res (next l (num y m d))) := by
    simp only [period_Roll.j0, period_Roll_1.f]
    cases hn : next l (num y m d) with
    | none =>
      rw [hup.1 hn]
      simp [res]
    | some q =>
      obtain ⟨a, b, _⟩ := next_bd r.1 r.2 hn
      obtain ⟨y', m', d', o', rfl⟩ := date_of q (by omega) b
      rw [hup.2 y' m' d' o' hn]
      simp [res]
  have p2n : next l (num y m d) = none → period_Roll.j0 (k + 4) 2 false (num y m d) l y m d = some (res (prev l (num y m d))) := by
    intro hn
    simp only [period_Roll.j0, hdn]
    simp only [period_Roll_1.f]
    rw [hup.1 hn]
    simp
  have p2s : ∀ y' m' d', ok y' m' d' → next l (num y m d) = some (num y' m' d') → period_Roll.j0 (k + 4) 2 false (num y m d) l y m d = some (if y' = y ∧ m' = m then (num y' m' d', 0) else res (prev l (num y m d))) := by
    intro y' m' d' o' hn
    simp only [period_Roll.j0, hdn]
    simp only [period_Roll_1.f]
    rw [hup.2 y' m' d' o' hn]
    by_cases e1 : y' = y
    · by_cases e2 : m' = m
      · simp [e1, e2]
      · simp [e1, e2]
    · simp [e1]
  -- the document's way
  have rj3 : ∀ p q : Int, lombardref06_Roll.j3 (k + 1) p q true = some (if p = 0 then (0, 5) else (p, 0)) ∧ lombardref06_Roll.j3 (k + 1) p q false = some (if q = 0 then (0, 5) else (q, 0)) := by
    intro p q
    constructor
    · simp only [lombardref06_Roll.j3, if_true]
      split <;> rfl
    · simp only [lombardref06_Roll.j3, Bool.false_eq_true, if_false]
      split <;> rfl
  have rp : (if (prev l (num y m d)).getD 0 = 0 then ((0, 5) : Int × Int) else ((prev l (num y m d)).getD 0, 0)) = res (prev l (num y m d)) := by
    cases hp : prev l (num y m d) with
    | none => simp [res]
    | some q =>
      obtain ⟨a, _⟩ := prev_bd r.1 r.2 hp
      simp [res]
      omega
  have rn : (if (next l (num y m d)).getD 0 = 0 then ((0, 5) : Int × Int) else ((next l (num y m d)).getD 0, 0)) = res (next l (num y m d)) := by
    cases hp : next l (num y m d) with
    | none => simp [res]
    | some q =>
      obtain ⟨a, _⟩ := next_bd r.1 r.2 hp
      simp [res]
      omega
  have hwn : work l (num y m d) = true → next l (num y m d) = some (num y m d) ∧ prev l (num y m d) = some (num y m d) := by
    intro h
    constructor
    · unfold next
      obtain ⟨z, hz⟩ : ∃ z, (3652060 - num y m d).toNat = z + 1 := ⟨(3652060 - num y m d).toNat - 1, by omega⟩
      rw [hz]
      simp only [up]
      rw [if_pos h]
    · unfold prev
      obtain ⟨z, hz⟩ : ∃ z, (num y m d).toNat = z + 1 := ⟨(num y m d).toNat - 1, by omega⟩
      rw [hz]
      simp only [dn]
      rw [if_pos h]
  have q0 : lombardref06_Roll.j0 (k + 4) (num y m d) 0 l false y m d = some (num y m d, 0) := by
    simp [lombardref06_Roll.j0, lombardref06_Roll.j1]
  have qw : ∀ w, w = 1 ∨ w = 2 ∨ w = 3 → lombardref06_Roll.j0 (k + 4) (num y m d) w l false y m d = period_Roll.j0 (k + 4) w false (num y m d) l y m d := by
    intro w hw3
    by_cases c : work l (num y m d) = true
    · have hh := hwn c
      have e1 : lombardref06_Roll.j0 (k + 4) (num y m d) w l false y m d = some (num y m d, 0) := by
        simp only [lombardref06_Roll.j0, lombardref06_Roll.j1, hw, c]
        have : ¬ w = 0 := by omega
        simp [this]
      rw [e1]
      rcases hw3 with rfl | rfl | rfl
      · rw [p1, hh.1]
        rfl
      · rw [p2s y m d o hh.1]
        simp
      · rw [p3, hh.2]
        rfl
    · have c' : work l (num y m d) = false := Bool.eq_false_iff.mpr c
      have e1 : lombardref06_Roll.j0 (k + 4) (num y m d) w l false y m d = lombardref06_Roll.j2 (k + 2) w ((next l (num y m d)).getD 0) ((prev l (num y m d)).getD 0) (if w = 3 then (prev l (num y m d)).getD 0 else (next l (num y m d)).getD 0) y m d := by
        have : ¬ w = 0 := by omega
        simp only [lombardref06_Roll.j0, lombardref06_Roll.j1, hw, c', Bool.false_eq_true, if_false, this, Option.bind_some, lombardref06_seek.f, ru, rd_, next, prev]
        by_cases w3 : w = 3 <;> simp [w3]
      rw [e1]
      rcases hw3 with rfl | rfl | rfl
      · rw [p1]
        simp only [lombardref06_Roll.j2, show ¬ ((1 : Int) = 3) by decide, show ¬ ((1 : Int) = 2) by decide, if_false]
        rw [← rn]
        split <;> rfl
      · simp only [lombardref06_Roll.j2, show ¬ ((2 : Int) = 3) by decide, if_false, if_true]
        cases hn : next l (num y m d) with
        | none =>
          rw [p2n hn, ← rp]
          simp only [Option.getD_none]
          rw [DayRef.to_no (n := 0) (by omega) (k + 1) (by omega)]
          simp only [Option.bind_some, if_true]
          exact (rj3 _ _).1
        | some q =>
          obtain ⟨a, b, _⟩ := next_bd r.1 r.2 hn
          obtain ⟨y', m', d', o', rfl⟩ := date_of q (by omega) b
          rw [p2s y' m' d' o' hn, ← rp]
          simp only [Option.getD_some]
          rw [DayRef.to_num o' (k + 1) (by omega)]
          simp only [Option.bind_some]
          rw [if_neg (by omega)]
          by_cases e2 : m' = m
          · rw [if_pos e2]
            by_cases e1 : y' = y
            · have hb : (y' != y) = false := by simp [e1]
              rw [hb, (rj3 _ _).2, if_neg (by omega), if_pos ⟨e1, e2⟩]
            · have hb : (y' != y) = true := by simp [e1]
              rw [hb, (rj3 _ _).1, if_neg (c := y' = y ∧ m' = m) (fun h => e1 h.1)]
          · rw [if_neg e2, (rj3 _ _).1, if_neg (c := y' = y ∧ m' = m) (fun h => e2 h.2)]
      · rw [p3]
        simp only [lombardref06_Roll.j2, show ¬ ((3 : Int) = 2) by decide, if_false, if_true]
        rw [← rp]
        split <;> rfl
  have pf : ∀ w, period_Roll.f (k + 4) (num y m d) w l = if w < 0 ∨ w > 3 ∨ (l.length : Int) > 600 then some (0, 2) else period_Roll.j0 (k + 4) w false (num y m d) l y m d := by
    intro w
    unfold period_Roll.f
    rw [t0]
    simp only [Option.bind_some, if_true]
    by_cases c1 : w < 0
    · rw [if_pos c1, if_pos (.inl c1), hj]
    · rw [if_neg c1]
      by_cases c2 : w > 3
      · rw [if_pos c2, if_pos (.inr (.inl c2)), hj]
      · rw [if_neg c2]
        by_cases c3 : (l.length : Int) > 600
        · rw [decide_eq_true c3, if_pos (.inr (.inr c3)), hj]
        · rw [decide_eq_false c3, if_neg (by omega)]
  have qf : ∀ w, lombardref06_Roll.f (k + 4) (num y m d) w l = if w < 0 ∨ w > 3 ∨ (l.length : Int) > 600 then some (0, 2) else lombardref06_Roll.j0 (k + 4) (num y m d) w l false y m d := by
    intro w
    unfold lombardref06_Roll.f
    rw [t1]
    simp only [Option.bind_some, if_true]
    by_cases c1 : w < 0
    · rw [if_pos c1, if_pos (.inl c1), rj]
    · rw [if_neg c1]
      by_cases c2 : w > 3
      · rw [if_pos c2, if_pos (.inr (.inl c2)), rj]
      · rw [if_neg c2]
        by_cases c3 : (l.length : Int) > 600
        · rw [decide_eq_true c3, if_pos (.inr (.inr c3)), rj]
        · rw [decide_eq_false c3, if_neg (by omega)]
  constructor
  · rw [pf, qf]
    split
    · rfl
    · by_cases w0 : way = 0
      · subst w0
        rw [p0, q0]
      · exact (qw way (by omega)).symm
  · intro h6
    refine ⟨?_, ?_, ?_, ?_, ?_⟩
    · rw [pf, if_neg (by omega), p0]
    · rw [pf, if_neg (by omega), p1]
    · rw [pf, if_neg (by omega), p3]
    · intro hn
      rw [pf, if_neg (by omega), p2n hn]
    · intro y' m' d' o' hn
      rw [pf, if_neg (by omega), p2s y' m' d' o' hn]

theorem roll_no {n : Int} (h : n < 1 ∨ 3652059 < n) (way : Int) (l : List Int) (k : Nat) (hk : 1 ≤ k) : period_Roll.f k n way l = some (0, 5) ∧ lombardref06_Roll.f k n way l = some (0, 5) := by
  unfold period_Roll.f lombardref06_Roll.f
  rw [to_no h k hk, DayRef.to_no h k hk]
  simp
end Go.Proofs.Ytdfaedikjfbbjaa.PerRoll
end

section
namespace Go.Proofs.Ytdfaedikjfbbjaa.PerLaws
set_option linter.unusedVariables false
set_option linter.unusedSimpArgs false
open Go.RowKit Go.Proofs.Ytdfaedikjfbbjaa.S Go.Proofs.Ytdfaedikjfbbjaa.XNum Go.Proofs.Ytdfaedikjfbbjaa.Cal Go.Proofs.Ytdfaedikjfbbjaa.DayPure Go.Proofs.Ytdfaedikjfbbjaa.PerPure Go.Proofs.Ytdfaedikjfbbjaa.PerRoll Go.Proofs.YtdfaedikjfbbjaaW.PrintWords Go.Proofs.YtdfaedikjfbbjaaW.PrintLast

theorem on_ok {y m d : Int} (h : ok y m d) (k : Nat) (hk : 20000 ≤ k) : lombardlaw06_on.f k y m d = some (num y m d) := by
  unfold lombardlaw06_on.f
  rw [from_ok h k (by omega)]
  rfl

theorem alive (k : Nat) (hk : 8000000 ≤ k) : lombardlaw06_alive.f k = some true := by
  have o1 : ok 2020 1 31 := by decide
  have o2 : ok 2020 2 29 := by decide
  have o3 : ok 2020 3 2 := by decide
  have n2 : num 2020 2 29 = 737484 := by decide
  have m1 : monthsAll 2020 1 31 1 false = (737484, 0) := by decide
  have m2 : monthsAll 2020 2 29 1 true = (737515, 0) := by decide
  have hnx : next [] 737484 = some 737486 := by
    unfold next
    have e : ((3652060 : Int) - 737484).toNat = 2914573 + 3 := by decide
    have h : ∀ z, PerRoll.up [] (z + 3) 737484 = some 737486 := by
      intro z
      simp [PerRoll.up, work]
    rw [e]
    exact h _
  have hpv : prev [] 737484 = some 737483 := by
    unfold prev
    have e : (737484 : Int).toNat = 737482 + 2 := by decide
    have h : ∀ z, PerRoll.dn [] (z + 2) 737484 = some 737483 := by
      intro z
      simp [PerRoll.dn, work]
    rw [e]
    exact h _
  have rr := (roll_f o2 0 [] (by simp) k hk).2 (by simp)
  have n3 : num 2020 3 2 = 737486 := by decide
  have r2 := rr.2.2.2.2 2020 3 2 o3 (by rw [n2, n3]; exact hnx)
  have r1 := rr.2.1
  rw [n2, hnx] at r1
  rw [n2, hpv] at r2
  unfold lombardlaw06_alive.f
  rw [on_ok o1 k (by omega), on_ok o2 k (by omega)]
  simp only [Option.bind_some]
  rw [months_f o1 1 false k (by omega), months_f o2 1 true k (by omega), m1, m2, n2]
  simp only [Option.bind_some]
  rw [r1, r2]
  simp [res]
end Go.Proofs.Ytdfaedikjfbbjaa.PerLaws
end

section
namespace Go.Proofs.Ytdfaedikjfbbjaa.Pure
set_option linter.unusedVariables false
set_option linter.unusedSimpArgs false
open Go.RowKit Go.Proofs.Ytdfaedikjfbbjaa.S Go.Proofs.Ytdfaedikjfbbjaa.XNum Go.Proofs.Ytdfaedikjfbbjaa.Cal Go.Proofs.Ytdfaedikjfbbjaa.DayPure Go.Proofs.Ytdfaedikjfbbjaa.PerPure Go.Proofs.Ytdfaedikjfbbjaa.PerRoll Go.Proofs.YtdfaedikjfbbjaaW.PrintWords Go.Proofs.YtdfaedikjfbbjaaW.PrintLast

/-- So many different ones lie in no shorter list. -/
theorem pigeon (f : Nat → Int) (hf : ∀ i j, f i = f j → i = j) (N : Nat) : ∀ l : List Int, (∀ i, i < N → f i ∈ l) → N ≤ l.length := by
  induction N with
  | zero => intro l _; omega
  | succ N ih =>
    intro l h
    have h0 := h N (by omega)
    have := ih (l.erase (f N)) (fun i hi => by
      have hne : f i ≠ f N := fun e => by
        have := hf i N e
        omega
      exact (List.mem_erase_of_ne hne).2 (h i (by omega)))
    rw [List.length_erase_of_mem h0] at this
    have := List.length_pos_of_mem h0
    omega

theorem next_is {l : List Int} (hl : (l.length : Int) ≤ 600) {n : Int} (h1 : 10000 ≤ n) (h2 : n ≤ 3600000) : ∃ m, next l n = some m := by
  cases hn : next l n with
  | some m => exact ⟨m, rfl⟩
  | none =>
    exfalso
    have hw := next_none (by omega) (by omega) hn
    have := pigeon (fun i => 7 * ((n + 6) / 7 + 1) + 1 + 7 * (i : Int)) (fun i j e => by omega) 601 l (fun i hi => by
      have h := hw (7 * ((n + 6) / 7 + 1) + 1 + 7 * (i : Int)) (by omega) (by omega)
      unfold work at h
      rw [decide_eq_false_iff_not] at h
      have h3 : (7 * ((n + 6) / 7 + 1) + 1 + 7 * (i : Int) + 6) % 7 < 5 := by omega
      by_cases hm : 7 * ((n + 6) / 7 + 1) + 1 + 7 * (i : Int) ∈ l
      · exact hm
      · exact absurd ⟨h3, hm⟩ h)
    omega
theorem prev_is {l : List Int} (hl : (l.length : Int) ≤ 600) {n : Int} (h1 : 10000 ≤ n) (h2 : n ≤ 3600000) : ∃ m, prev l n = some m := by
  cases hn : prev l n with
  | some m => exact ⟨m, rfl⟩
  | none =>
    exfalso
    have hw := prev_none (by omega) (by omega) hn
    have := pigeon (fun i => 7 * ((n + 6) / 7 - 2) + 1 - 7 * (i : Int)) (fun i j e => by omega) 601 l (fun i hi => by
      have h := hw (7 * ((n + 6) / 7 - 2) + 1 - 7 * (i : Int)) (by omega) (by omega)
      unfold work at h
      rw [decide_eq_false_iff_not] at h
      have h3 : (7 * ((n + 6) / 7 - 2) + 1 - 7 * (i : Int) + 6) % 7 < 5 := by omega
      by_cases hm : 7 * ((n + 6) / 7 - 2) + 1 - 7 * (i : Int) ∈ l
      · exact hm
      · exact absurd ⟨h3, hm⟩ h)
    omega

theorem works_l0 (l : List Int) (hl : (l.length : Int) ≤ 600) {y m d ya ma da : Int} (o : ok y m d) (oa : ok ya ma da) (b c : Int) (hb : 1 ≤ b) (hbn : b ≤ num y m d) (hn1 : ∀ j, b < j → j ≤ num y m d → work l j = false) (hn2 : ∀ j, num y m d ≤ j → j < num ya ma da → work l j = false)
    (hc : c = if ya = y ∧ ma = m then num ya ma da else b) (r : Nat) : ∀ (k : Nat) (x : Int), b < x → (num ya ma da - x).toNat = r → r + 30000 ≤ k → lombardlaw06_PeriodWorks.l0 k (num y m d) l (num ya ma da) b c x = some true := by
  have rr := num_range o
  have ra := num_range oa
  induction r with
  | zero =>
    intro k x hx hr hk
    obtain ⟨k, rfl⟩ : ∃ j, k = j + 1 := ⟨k - 1, by omega⟩
    simp only [lombardlaw06_PeriodWorks.l0]
    rw [if_neg (by omega), to_num o k (by omega), to_num oa k (by omega)]
    simp only [Option.bind_some]
    by_cases e2 : m = ma
    · rw [if_pos e2]
      by_cases e1 : y = ya
      · rw [if_pos e1, hc, if_pos ⟨e1.symm, e2.symm⟩]
        simp
      · rw [if_neg e1, hc, if_neg (fun h => e1 h.1.symm)]
        simp
    · rw [if_neg e2, hc, if_neg (fun h => e2 h.2.symm)]
      simp
  | succ r ih =>
    intro k x hx hr hk
    obtain ⟨k, rfl⟩ : ∃ j, k = j + 1 := ⟨k - 1, by omega⟩
    simp only [lombardlaw06_PeriodWorks.l0]
    rw [if_pos (by omega), works_any x l (by omega) k (by omega)]
    have hw : work l x = false := by
      by_cases c1 : x ≤ num y m d
      · exact hn1 x hx c1
      · exact hn2 x (by omega) (by omega)
    simp only [Option.bind_some, hw, Bool.false_eq_true, if_false]
    rw [w64 (by omega) (by omega)]
    exact ih k (x + 1) (by omega) (by omega) (by omega)

theorem PeriodWorks : lombardlaw06_PeriodWorks.Pure := by
  intro n l _ _ _ _
  refine ⟨9000000, ?_⟩
  have hk : (9000000 : Nat) = 8999997 + 1 + 1 + 1 := rfl
  have t : lombardlaw06_PeriodWorks.j0 9000000 n l true = some true := by
    rw [hk]
    simp only [lombardlaw06_PeriodWorks.j0, if_true]
  unfold lombardlaw06_PeriodWorks.f
  rw [PerLaws.alive 9000000 (by omega)]
  simp only [Option.bind_some, if_true]
  by_cases c1 : (l.length : Int) > 600
  · rw [if_pos c1]
    exact t
  rw [if_neg c1]
  by_cases c2 : n < 10000
  · rw [if_pos c2]
    exact t
  rw [if_neg c2]
  by_cases c3 : n > 3600000
  · rw [decide_eq_true c3]
    exact t
  rw [decide_eq_false c3]
  obtain ⟨a, ha⟩ := next_is (l := l) (n := n) (by omega) (by omega) (by omega)
  obtain ⟨b, hb⟩ := prev_is (l := l) (n := n) (by omega) (by omega) (by omega)
  obtain ⟨a1, a2, a3, a4⟩ := next_bd (by omega) (by omega) ha
  obtain ⟨b1, b2, b3, b4⟩ := prev_bd (by omega) (by omega) hb
  obtain ⟨y, m, d, o, rfl⟩ := date_of n (by omega) (by omega)
  obtain ⟨ya, ma, da, oa, rfl⟩ := date_of a (by omega) (by omega)
  have rr := (roll_f o 0 l (by omega) 8999999 (by omega)).2 (by omega)
  obtain ⟨r0, r1, r3, _, r2⟩ := rr
  have r2 := r2 ya ma da oa ha
  rw [ha] at r1
  rw [hb] at r3 r2
  have hj1 : ∀ c, c = (if ya = y ∧ ma = m then num ya ma da else b) → lombardlaw06_PeriodWorks.j1 (8999997 + 1 + 1) (num y m d) l (num ya ma da) b c false = some true := by
    intro c hc
    have hl0 := works_l0 l (by omega) o oa b c b1 b2 b4 a4 hc (num ya ma da - (b + 1)).toNat 8999997 (b + 1) (by omega) rfl (by omega)
    simp only [lombardlaw06_PeriodWorks.j1, lombardlaw06_PeriodWorks.j2, Bool.false_eq_true, if_false]
    rw [works_any (num y m d) l (by omega) (8999997 + 1) (by omega), w64 (n := b + 1) (by omega) (by omega)]
    simp only [Option.bind_some]
    by_cases w : work l (num y m d) = true
    · have e1 : num ya ma da = num y m d := by
        by_cases c : num y m d < num ya ma da
        · have := a4 (num y m d) (by omega) c
          rw [w] at this
          cases this
        · omega
      have e2 : b = num y m d := by
        by_cases c : b < num y m d
        · have := b4 (num y m d) c (by omega)
          rw [w] at this
          cases this
        · omega
      rw [if_pos w, if_pos e1]
      have hbe : (b != num y m d) = false := by simp [e2]
      rw [hbe]
      simp only [Bool.false_eq_true, if_false]
      exact hl0
    · rw [if_neg w]
      exact hl0
  have hc : (if ya = y ∧ ma = m then (num ya ma da, (0 : Int)) else res (some b)) = (if ya = y ∧ ma = m then num ya ma da else b, 0) := by
    split <;> rfl
  rw [hk]
  simp only [lombardlaw06_PeriodWorks.j0, Bool.false_eq_true, if_false]
  rw [r0, r1, r2, r3, hc]
  simp only [Option.bind_some, res, if_true]
  rw [works_any _ l (by omega) 8999999 (by omega), works_any _ l (by omega) 8999999 (by omega), a3, b3]
  simp only [Option.bind_some, if_true]
  rw [if_neg (by omega), if_neg (by omega)]
  have hj := hj1 _ rfl
  by_cases c : (if ya = y ∧ ma = m then num ya ma da else b) = num ya ma da
  · rw [if_pos c]
    exact hj
  · rw [if_neg c]
    have hbe : ((if ya = y ∧ ma = m then num ya ma da else b) != b) = false := by
      rw [bne_eq_false_iff_eq]
      split
      · rename_i h
        rw [if_pos h] at c
        exact absurd rfl c
      · rfl
    rw [hbe]
    exact hj
end Go.Proofs.Ytdfaedikjfbbjaa.Pure
end

section
namespace Go.Proofs.YtdfaedikjfbbjaaW.PrintWords
open Go.ChangeShapes Go.WideShapes
/-- A row's slice of whole numbers is no longer than its weight allows. -/
theorem sized_ints {H : Type} {enc : TypeId × Value → H} {P : Program} {W : World} {base : Nat} {spare : Nat → Bool} {held : Bool} {t e : TypeId} {k : IntKind} {a : Option Addr} {len cap : Nat} {d : DataW H} {ps : List MemPlace} {ts : List TypeId} {ds : List (DataW H)} {j : Nat}
    (hsz : (DataW.weightsEach P ts ds).all (· ≤ reachBytes) = true) (ht : ts[j]? = some t) (hd : ds[j]? = some d) (hu : P.underlying t = some (.slice e)) (he : P.underlying e = some (.int k)) (hc : P.cellsOf e = 1) {B : Nat} (hB : P.bytesOf e = B)
    (h : DataW.Trod enc P W base spare held t (.slice a len cap) d ps) : len * B ≤ 140737488351232 := by
  obtain ⟨fuel, hf⟩ := h
  rcases open_ints hu he hc hf with ⟨hcs, _⟩ | ⟨x, l, c, zs, hcs, _, hl, _, hz, hx, _, _⟩
  · simp [Value.cells] at hcs
    obtain ⟨rfl, rfl, rfl⟩ := hcs
    simp
  · simp [Value.cells] at hcs
    obtain ⟨rfl, rfl, rfl⟩ := hcs
    obtain ⟨hx, _⟩ := Prod.mk.inj hx
    subst hx
    have z := sized_slice hsz ht hd hu
    rw [hB] at z
    have hl2 : len ≤ zs.length := by
      rw [hz]
      split
      · exact hl
      · exact Nat.le_refl _
    have h1 : (lits (H := H) k (zs.take len)).length + (lits (H := H) k (zs.drop len)).length = zs.length := by
      simp [lits]
      omega
    rw [h1] at z
    exact Nat.le_trans (Nat.mul_le_mul_right _ hl2) z
end Go.Proofs.YtdfaedikjfbbjaaW.PrintWords
end

section
namespace Go.Proofs.Ytdfaedikjfbbjaa.periodWorks
open Go.ChangeShapes Go.WideShapes Go.ChangeAt Go.RowKit
open Go.ChangeMaps (open_string shut_string)
set_option linter.unusedVariables false
theorem own : ownKnob Try.prog.godebug = none := by kernel_rfl
theorem laidOut : laidOutB Try.prog = true := by kernel_rfl
def IsRow (k : IntKind) (w : World) (a : Option Addr) (len cap : Nat) (zs : List Int) : Prop :=
  (a = none ∧ len = 0 ∧ cap = 0 ∧ zs = []) ∨
  ∃ x, a = some x ∧ len ≤ cap ∧ cap ≤ maxLen ∧ zs.length = cap ∧ (∀ i, i < zs.length → w.cell? (x.add i) = some (.int k (zs.getD i 0))) ∧ ∀ n ∈ zs, (Lit.int k n).wf = true
set_option maxRecDepth 100000 in
theorem lifted (os : Os) (started : os.Started) (H : Type) (enc : TypeId × Value → H) :
    ReturnsInHanded {} Try.checked os 10 .any (Rows.periodWorksSpec.pre6 enc Try.prog Try.f10 Rows.periodWorksRow.domain false) (Rows.periodWorksSpec.post enc Try.prog Try.f10 false true false false) := by
  refine returnsInHanded_of_change_sized (C := Try.checked) own started (by kernel_rfl) Try.func10
    (ChangeSpec.witness6 (enc := enc) (C := Try.checked) false ⟨#[], #[.int .i64 0, .slice none 0 0], []⟩ 8 (by kernel_rfl) (by kernel_rfl) (by kernel_rfl) (by kernel_rfl)) ?_
  intro W base args ds gs before hval0 hW hcnd hsz0 _
  have hsz : (DataW.weightsEach Try.prog (Try.f10.params.toList ++ Rows.periodWorksSpec.plain.varTypes Try.prog) (ds ++ gs)).all (· ≤ reachBytes) = true := hsz0
  have hval : ∀ (j : Nat) t v, Try.f10.params[j]? = some t → args[j]? = some v → Value.okWide Try.prog W .any base t v := hval0
  have hW' := hW
  obtain ⟨p, q, hA0, hV, rfl, hfz, hnd⟩ := hW
  have hA : DataW.TrodAll enc Try.prog W 0 (fun _ => true) true Try.f10.params.toList args.toList ds p := hA0
  rw [Try.params10] at hA hval hsz
  obtain ⟨v0, vs0, d0, ds0, p0, q0, hargs, rfl, rfl, h0, r0⟩ := trodAll_cons hA
  obtain ⟨v1, vs1, d1, ds1, p1, q1, rfl, rfl, rfl, h1, r1⟩ := trodAll_cons r0
  obtain ⟨rfl, rfl, rfl⟩ := trodAll_nil r1
  obtain rfl : args = #[v0, v1] := by cases args; simp_all
  obtain ⟨rfl, rfl⟩ := trodVars_none hV
  obtain ⟨a0, rfl, rfl, rfl, w0⟩ := open_int Try.underlying3 (hval 0 3 v0 rfl rfl) h0
  obtain ⟨a1, len1, cap1, rfl⟩ := okWide_slice Try.underlying41 (hval 1 41 v1 rfl rfl)
  have k1 := h1
  have lt1 : ∀ x ∈ p1, x.block < W.heap.size := by obtain ⟨m, hm⟩ := k1; exact DataW.trod_lt m _ _ _ hm
  obtain ⟨z1, w1⟩ : ∃ zs, IsRow .i64 W a1 len1 cap1 zs := by
    obtain ⟨fuel, hf⟩ := h1
    rcases open_ints Try.underlying41 Try.underlying3 (by kernel_rfl) hf with ⟨hcs, _⟩ | ⟨x, l, c, zs, hcs, _, hl, hm, hz, _, hcell, hwz⟩
    · simp [Value.cells] at hcs
      obtain ⟨rfl, rfl, rfl⟩ := hcs
      exact ⟨[], .inl ⟨rfl, rfl, rfl, rfl⟩⟩
    · simp [Value.cells] at hcs
      obtain ⟨rfl, rfl, rfl⟩ := hcs
      exact ⟨zs, .inr ⟨_, rfl, hl, hm, by simpa using hz, hcell, hwz⟩⟩
  have y1 : len1 * 8 ≤ 140737488351232 := Go.Proofs.YtdfaedikjfbbjaaW.PrintWords.sized_ints hsz (j := 1) (t := 41) rfl rfl Try.underlying41 Try.underlying3 (by kernel_rfl) (by kernel_rfl) h1
  clear hA0 hval0 hsz0 hsz
  refine (S.lombardlaw06_PeriodWorks.walk Pure.PeriodWorks a0 a1 len1 cap1 z1 W w0 w1 y1).mono fun e W' ⟨he, bel⟩ => ?_
  subst he
  exact ⟨_, rfl, _, _, _, [], _, [], hW', trodAll_mk1 (shut_bool Try.underlying4 _), (trodAll_cons_mk (shut_int Try.underlying3 w0) (trodAll_cons_mk (Below.trod laidOut (by kernel_rfl) (of_decide_eq_true (by kernel_rfl)) k1 bel lt1) trodAll_mk0)), rfl, bel.frame _, fun h => by cases h⟩
theorem over : Rows.periodWorksRow.holds Try.pinned (OpenSpec.ofChange Rows.periodWorksSpec) :=
  OpenClaim.holds_of_wide 10 Try.f10 rfl rfl rfl rfl rfl rfl rfl ⟨rfl, rfl, rfl, rfl, rfl⟩ rfl rfl rfl rfl rfl (by kernel_rfl) Try.func10 (by kernel_rfl)
    (of_decide_eq_true (by kernel_rfl)) (by unfold Func.isWrapper; first | (rw [if_pos (by decide +kernel)]; kernel_rfl) | (rw [if_neg (by decide +kernel)]; exact ⟨rfl, rfl⟩))
    (fun os started H enc _ => lifted os started H enc)
theorem proved : Rows.PeriodWorksSaid := over
#print axioms proved
end Go.Proofs.Ytdfaedikjfbbjaa.periodWorks
namespace Go.Proofs.Ytdfaedikjfbbjaa
/-- The row, under a short name, for the claim. -/
theorem periodWorks_holds : Rows.PeriodWorksSaid := periodWorks.proved
end Go.Proofs.Ytdfaedikjfbbjaa
end
