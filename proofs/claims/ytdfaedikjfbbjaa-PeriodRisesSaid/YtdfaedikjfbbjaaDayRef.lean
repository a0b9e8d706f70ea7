/-
  What the document's day functions compute: the same calendar.
  Conditions: none beyond those of each law.
-/
import Derived.Test.YtdfaedikjfbbjaaDayPure
import Derived.Test.YtdfaedikjfbbjaaSxLombardref04To
import Derived.Test.YtdfaedikjfbbjaaSxLombardref04From
import Derived.Test.YtdfaedikjfbbjaaSxLombardref04Weekday
namespace Go.Proofs.Ytdfaedikjfbbjaa.DayRef
set_option linter.unusedVariables false
set_option linter.unusedSimpArgs false
open Go.RowKit Go.Proofs.Ytdfaedikjfbbjaa.S Go.Proofs.Ytdfaedikjfbbjaa.XNum Go.Proofs.Ytdfaedikjfbbjaa.Cal Go.Proofs.Ytdfaedikjfbbjaa.DayPure Go.Proofs.YtdfaedikjfbbjaaW.PrintWords Go.Proofs.YtdfaedikjfbbjaaW.PrintLast

theorem leap (y : Int) : lombardref04_Leap.f y = some (decide (lp y = 1)) := by
  have z4 : Int.tmod y 4 = 0 ↔ y % 4 = 0 := tm_zero
  have z100 : Int.tmod y 100 = 0 ↔ y % 100 = 0 := tm_zero
  have z400 : (Int.tmod y 400 == 0) = decide (y % 400 = 0) := by
    rw [Bool.eq_iff_iff]
    simp only [beq_iff_eq, decide_eq_true_eq]
    exact tm_zero
  unfold lombardref04_Leap.f lp
  rw [z400]
  by_cases h1 : y % 4 = 0
  · rw [if_pos (z4.2 h1)]
    by_cases h2 : y % 100 = 0
    · rw [if_pos (z100.2 h2)]
      by_cases h3 : y % 400 = 0 <;> simp [h1, h2, h3]
    · rw [if_neg (mt z100.1 h2)]
      simp [h1, h2]
  · rw [if_neg (mt z4.1 h1)]
    have h3 : ¬ y % 400 = 0 := by omega
    simp [h1, h3]

theorem rlast (y m : Int) : lombardref04_Last.f y m = some (last y m) := by
  have hl := lp_01 y
  unfold lombardref04_Last.f
  rw [leap]
  simp only [Option.bind_some]
  by_cases h1 : y < 1
  · rw [if_pos h1]
    unfold last
    rw [if_neg (by omega)]
  rw [if_neg h1]
  by_cases h2 : y > 9999
  · rw [if_pos h2]
    unfold last
    rw [if_neg (by omega)]
  rw [if_neg h2]
  by_cases h3 : m < 1
  · rw [if_pos h3]
    unfold last
    rw [if_neg (by omega)]
  rw [if_neg h3]
  by_cases h4 : m > 12
  · rw [if_pos h4]
    unfold last
    rw [if_neg (by omega)]
  rw [if_neg h4]
  have hd : last y m = dim y m := by
    unfold last
    rw [if_pos (by omega)]
  rw [hd]
  unfold dim
  by_cases h5 : m = 2
  · subst h5
    by_cases c : lp y = 1
    · simp [c]
    · have : lp y = 0 := by omega
      simp [this]
  · simp [h5]

/-- How many days a year's years ahead have. -/
theorem ahead_l (y : Int) (h1 : y ≤ 10000) (d : Nat) : ∀ (k : Nat) (x : Int), 1 ≤ x → x ≤ y → (y - x).toNat = d → d < k → lombardref04_ahead.l0 k y (yd x - 1) x = some (yd y - 1) := by
  induction d with
  | zero =>
    intro k x a b hd hk
    obtain ⟨k, rfl⟩ : ∃ j, k = j + 1 := ⟨k - 1, by omega⟩
    have : x = y := by omega
    subst this
    simp only [lombardref04_ahead.l0]
    rw [if_neg (by omega)]
  | succ d ih =>
    intro k x a b hd hk
    obtain ⟨k, rfl⟩ : ∃ j, k = j + 1 := ⟨k - 1, by omega⟩
    have hl := lp_01 x
    have s := yd_succ x
    have r1 := yd_mono (a := 1) (b := x) a
    have r2 := yd_mono (a := x) (b := 10000) (by omega)
    rw [yd_one] at r1
    rw [yd_top] at r2
    have := ih k (x + 1) (by omega) (by omega) (by omega) (by omega)
    simp only [lombardref04_ahead.l0, leap, Option.bind_some]
    rw [if_pos (by omega), w64 (n := x + 1) (by omega) (by omega), w64 (n := yd x - 1 + 365) (by omega) (by omega), w64 (n := yd x - 1 + 365 + 1) (by omega) (by omega)]
    by_cases c : lp x = 1
    · rw [if_pos (decide_eq_true c), show yd x - 1 + 365 + 1 = yd (x + 1) - 1 by omega]
      exact this
    · have c0 : lp x = 0 := by omega
      rw [if_neg (by simp [c]), show yd x - 1 + 365 = yd (x + 1) - 1 by omega]
      exact this

theorem from_l (y d : Int) (h1 : 1 ≤ y) (h2 : y ≤ 9999) (m : Int) (h3 : 1 ≤ m) (h4 : m ≤ 12) (h5 : 1 ≤ d) (h6 : d ≤ 31) (n : Nat) : ∀ (k : Nat) (x : Int), 1 ≤ x → x ≤ m → (m - x).toNat = n → n < k →
    lombardref04_From.l0 k (num y x 0) x y m d = some (num y m d, 0) := by
  have r1 := yd_mono (a := 1) (b := y) h1
  have r2 := yd_mono (a := y) (b := 10000) (by omega)
  rw [yd_one] at r1
  rw [yd_top] at r2
  have hl := lp_01 y
  induction n with
  | zero =>
    intro k x a b hd hk
    obtain ⟨k, rfl⟩ : ∃ j, k = j + 1 := ⟨k - 1, by omega⟩
    have : x = m := by omega
    subst this
    have q := mo_le y (a := x) (b := 13) (by omega) (by omega) (by omega)
    have q' := mo_le y (a := 1) (b := x) (by omega) (by omega) (by omega)
    rw [mo_13] at q
    rw [mo_one] at q'
    simp only [lombardref04_From.l0]
    rw [if_neg (by omega)]
    have e : num y x 0 + d = num y x d := by unfold num; omega
    rw [e, w64 (by unfold num; omega) (by unfold num; omega)]
  | succ n ih =>
    intro k x a b hd hk
    obtain ⟨k, rfl⟩ : ∃ j, k = j + 1 := ⟨k - 1, by omega⟩
    have s := mo_succ y x (by omega) (by omega)
    have hb := dim_bd y x
    have q := mo_le y (a := x) (b := 13) (by omega) (by omega) (by omega)
    have q' := mo_le y (a := 1) (b := x) (by omega) (by omega) (by omega)
    rw [mo_13] at q
    rw [mo_one] at q'
    have hlast : last y x = dim y x := by
      unfold last
      rw [if_pos (by omega)]
    have e : num y x 0 + dim y x = num y (x + 1) 0 := by unfold num; omega
    have := ih k (x + 1) (by omega) (by omega) (by omega) (by omega)
    simp only [lombardref04_From.l0, rlast, Option.bind_some]
    rw [if_pos (by omega), hlast, e, w64 (n := num y (x + 1) 0) (by rw [← e]; unfold num; omega) (by rw [← e]; unfold num; omega), w64 (n := x + 1) (by omega) (by omega)]
    exact this

theorem from_ok {y m d : Int} (h : ok y m d) (k : Nat) (hk : 20000 ≤ k) : lombardref04_From.f k y m d = some (num y m d, 0) := by
  have h' := ok_last.1 h
  obtain ⟨a, b, c, e, f, g⟩ := h
  have hb := dim_bd y m
  obtain ⟨k, rfl⟩ : ∃ j, k = j + 1 := ⟨k - 1, by omega⟩
  have h1 := ahead_l y (by omega) (y - 1).toNat k 1 (by omega) a rfl (by omega)
  rw [yd_one, show (1 : Int) - 1 = 0 by rfl] at h1
  have h2 := from_l y d a b m c e f (by omega) (m - 1).toNat k 1 (by omega) c rfl (by omega)
  have e0 : num y 1 0 = yd y - 1 := by unfold num; rw [mo_one]; omega
  rw [e0] at h2
  unfold lombardref04_From.f
  rw [if_neg (by omega), rlast]
  simp only [Option.bind_some]
  rw [decide_eq_false (by omega)]
  simp only [lombardref04_From.j0, Bool.false_eq_true, if_false, lombardref04_ahead.f, h1, Option.bind_some, h2]
theorem from_no {y m d : Int} (h : ¬ ok y m d) (k : Nat) (hk : 20000 ≤ k) : lombardref04_From.f k y m d = some (0, 5) := by
  have h' := mt ok_last.2 h
  obtain ⟨k, rfl⟩ : ∃ j, k = j + 1 := ⟨k - 1, by omega⟩
  have t : lombardref04_From.j0 (k + 1) true y m d = some (0, 5) := by simp only [lombardref04_From.j0, if_true]
  unfold lombardref04_From.f
  by_cases c : d < 1
  · rw [if_pos c, t]
  · rw [if_neg c, rlast]
    simp only [Option.bind_some]
    rw [decide_eq_true (by omega), t]

/-- The months' loop. -/
theorem to_l1 (y n : Int) (h1 : 1 ≤ y) (h2 : y ≤ 9999) (hn : n < yd (y + 1)) (d : Nat) : ∀ (k : Nat) (m : Int), 1 ≤ m → m ≤ 12 → (12 - m).toNat = d → d < k → num y m 1 ≤ n →
    ∃ m' d', ok y m' d' ∧ num y m' d' = n ∧ lombardref04_To.l1 k y m (n - num y m 0) = some (y, m', d', 0) := by
  have r1 := yd_mono (a := 1) (b := y) h1
  have r2 := yd_mono (a := y + 1) (b := 10000) (by omega)
  have s' := yd_succ y
  rw [yd_one] at r1
  rw [yd_top] at r2
  have hl := lp_01 y
  induction d with
  | zero =>
    intro k m a b hd hk h5
    obtain ⟨k, rfl⟩ : ∃ j, k = j + 1 := ⟨k - 1, by omega⟩
    have hm : m = 12 := by omega
    subst hm
    have s := mo_succ y 12 (by omega) (by omega)
    have t := mo_13 y
    rw [show (12 : Int) + 1 = 13 by rfl] at s
    have d12 : dim y 12 = 31 := by simp [dim]
    have hlast : last y 12 = dim y 12 := by
      unfold last
      rw [if_pos (by omega)]
    have en : num y 12 0 = yd y + mo y 12 - 1 := by unfold num; omega
    have en1 : num y 12 1 = yd y + mo y 12 := by unfold num; omega
    refine ⟨12, n - num y 12 0, ⟨h1, h2, by omega, by omega, by omega, by omega⟩, by unfold num; omega, ?_⟩
    simp only [lombardref04_To.l1, rlast, Option.bind_some]
    rw [if_neg (by omega)]
  | succ d ih =>
    intro k m a b hd hk h5
    obtain ⟨k, rfl⟩ : ∃ j, k = j + 1 := ⟨k - 1, by omega⟩
    have s := mo_succ y m (by omega) (by omega)
    have hb := dim_bd y m
    have q' := mo_le y (a := 1) (b := m) (by omega) (by omega) (by omega)
    have q := mo_le y (a := m) (b := 13) (by omega) (by omega) (by omega)
    rw [mo_13] at q
    rw [mo_one] at q'
    have hlast : last y m = dim y m := by
      unfold last
      rw [if_pos (by omega)]
    have en : num y m 0 = yd y + mo y m - 1 := by unfold num; omega
    have en1 : num y m 1 = yd y + mo y m := by unfold num; omega
    have en2 : num y (m + 1) 1 = yd y + mo y m + dim y m := by unfold num; omega
    have en3 : num y (m + 1) 0 = yd y + mo y m + dim y m - 1 := by unfold num; omega
    simp only [lombardref04_To.l1, rlast, Option.bind_some]
    rw [hlast]
    by_cases c : n - num y m 0 > dim y m
    · have := ih k (m + 1) (by omega) (by omega) (by omega) (by omega) (by omega)
      rw [if_pos c, w64 (n := m + 1) (by omega) (by omega), w64 (by omega) (by omega), show n - num y m 0 - dim y m = n - num y (m + 1) 0 by omega]
      exact this
    · rw [if_neg c]
      exact ⟨m, n - num y m 0, ⟨h1, h2, a, b, by omega, by omega⟩, by unfold num; omega, rfl⟩

/-- The years' loop. -/
theorem to_l0 (n : Int) (h4 : n ≤ 3652059) (d : Nat) : ∀ (k : Nat) (y : Int), 1 ≤ y → y ≤ 9999 → (9999 - y).toNat = d → d + 20 < k → yd y ≤ n →
    ∃ y' m' d', ok y' m' d' ∧ num y' m' d' = n ∧ lombardref04_To.l0 k y 1 (n - yd y + 1) = some (y', m', d', 0) := by
  have fin : ∀ (k : Nat) (y : Int), 14 ≤ k → 1 ≤ y → y ≤ 9999 → yd y ≤ n → n < yd (y + 1) → ∃ y' m' d', ok y' m' d' ∧ num y' m' d' = n ∧ lombardref04_To.j2 k y 1 (n - yd y + 1) = some (y', m', d', 0) := by
    intro k y hk h1 h2 h3 h5
    obtain ⟨k, rfl⟩ : ∃ j, k = j + 1 := ⟨k - 1, by omega⟩
    obtain ⟨m', d', a, b, c⟩ := to_l1 y n h1 h2 h5 11 k 1 (by omega) (by omega) (by omega) (by omega) (by rw [num_one]; exact h3)
    have e0 : num y 1 0 = yd y - 1 := by unfold num; rw [mo_one]; omega
    rw [e0, show n - (yd y - 1) = n - yd y + 1 by omega] at c
    exact ⟨y, m', d', a, b, by simp only [lombardref04_To.j2]; exact c⟩
  induction d with
  | zero =>
    intro k y h1 h2 hd hk h3
    obtain ⟨k, rfl⟩ : ∃ j, k = j + 1 := ⟨k - 1, by omega⟩
    have hy : y = 9999 := by omega
    subst hy
    have t := yd_top
    have s := yd_succ 9999
    rw [show (9999 : Int) + 1 = 10000 by rfl] at s
    have l9 : lp 9999 = 0 := by decide
    have := fin k 9999 (by omega) (by omega) (by omega) h3 (by show n < yd 10000; omega)
    simp only [lombardref04_To.l0, leap, Option.bind_some]
    rw [l9, if_neg (by decide), if_pos (by omega)]
    exact this
  | succ d ih =>
    intro k y h1 h2 hd hk h3
    obtain ⟨k, rfl⟩ : ∃ j, k = j + 1 := ⟨k - 1, by omega⟩
    have hl := lp_01 y
    have s := yd_succ y
    have r1 := yd_mono (a := 1) (b := y) h1
    have r2 := yd_mono (a := y + 1) (b := 10000) (by omega)
    rw [yd_one] at r1
    rw [yd_top] at r2
    have ih' := fun hh => ih k (y + 1) (by omega) (by omega) (by omega) (by omega) hh
    have fin' := fun hh => fin k y (by omega) h1 h2 h3 hh
    simp only [lombardref04_To.l0, leap, Option.bind_some]
    rw [w64 (n := y + 1) (by omega) (by omega)]
    by_cases c : lp y = 1
    · rw [if_pos (decide_eq_true c)]
      by_cases c2 : n - yd y + 1 ≤ 366
      · rw [if_pos c2]
        exact fin' (by omega)
      · rw [if_neg c2, w64 (by omega) (by omega), show n - yd y + 1 - 366 = n - yd (y + 1) + 1 by omega]
        exact ih' (by omega)
    · have c0 : lp y = 0 := by omega
      rw [if_neg (by simp [c])]
      by_cases c2 : n - yd y + 1 ≤ 365
      · rw [if_pos c2]
        exact fin' (by omega)
      · rw [if_neg c2, w64 (by omega) (by omega), show n - yd y + 1 - 365 = n - yd (y + 1) + 1 by omega]
        exact ih' (by omega)

theorem to_num {y m d : Int} (h : ok y m d) (k : Nat) (hk : 20000 ≤ k) : lombardref04_To.f k (num y m d) = some (y, m, d, 0) := by
  obtain ⟨k, rfl⟩ : ∃ j, k = j + 1 := ⟨k - 1, by omega⟩
  have r := num_range h
  obtain ⟨y', m', d', o, e, f⟩ := to_l0 (num y m d) r.2 9998 k 1 (by omega) (by omega) (by omega) (by omega) (by rw [yd_one]; omega)
  obtain ⟨rfl, rfl, rfl⟩ := num_inj o h e
  rw [yd_one, show num y' m' d' - 1 + 1 = num y' m' d' by omega] at f
  unfold lombardref04_To.f
  rw [if_neg (by omega), decide_eq_false (by omega)]
  simp only [lombardref04_To.j0, Bool.false_eq_true, if_false]
  exact f
theorem to_no {n : Int} (h : n < 1 ∨ 3652059 < n) (k : Nat) (hk : 1 ≤ k) : lombardref04_To.f k n = some (0, 0, 0, 5) := by
  obtain ⟨k, rfl⟩ : ∃ j, k = j + 1 := ⟨k - 1, by omega⟩
  have t : lombardref04_To.j0 (k + 1) n true = some (0, 0, 0, 5) := by simp only [lombardref04_To.j0, if_true]
  unfold lombardref04_To.f
  by_cases c : n < 1
  · rw [if_pos c, t]
  · rw [if_neg c, decide_eq_true (by omega), t]

theorem weekday (n : Int) : lombardref04_Weekday.f n = some ((n + 6) % 7) := by
  unfold lombardref04_Weekday.f
  congr 1
  rw [tm_eq (a := n)]
  split
  · rw [w64 (n := n % 7 - 1) (by omega) (by omega), tm_eq (a := n % 7 - 1)]
    split
    · rw [w64 (by omega) (by omega), tm_nn (by omega)]
      omega
    · rw [w64 (by omega) (by omega), tm_nn (by omega)]
      omega
  · rw [w64 (n := -(-n % 7) - 1) (by omega) (by omega), tm_neg (a := -(-n % 7) - 1) (by omega), w64 (by omega) (by omega), tm_nn (by omega)]
    omega
end Go.Proofs.Ytdfaedikjfbbjaa.DayRef
