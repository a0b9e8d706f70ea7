/-
  DayAges, over plain numbers: 400 years on a date is 146097 days on, of the same weekday; a year has 365 or 366 days; later dates have greater numbers.
  Conditions: none beyond the pure statement's.
-/
import Derived.Test.YtdfaedikjfbbjaaDayLaws
import Derived.Test.YtdfaedikjfbbjaaSxLombardlaw04DayAges
namespace Go.Proofs.Ytdfaedikjfbbjaa.Pure
set_option linter.unusedVariables false
set_option linter.unusedSimpArgs false
open Go.RowKit Go.Proofs.Ytdfaedikjfbbjaa.S Go.Proofs.Ytdfaedikjfbbjaa.XNum Go.Proofs.Ytdfaedikjfbbjaa.Cal Go.Proofs.Ytdfaedikjfbbjaa.DayPure Go.Proofs.YtdfaedikjfbbjaaW.PrintWords Go.Proofs.YtdfaedikjfbbjaaW.PrintLast

theorem lp_400 (y : Int) : lp (y + 400) = lp y := by
  unfold lp
  have a : (y + 400) % 4 = y % 4 := by omega
  have b : (y + 400) % 100 = y % 100 := by omega
  have c : (y + 400) % 400 = y % 400 := by omega
  rw [a, b, c]
theorem dim_400 (y m : Int) : dim (y + 400) m = dim y m := by unfold dim; rw [lp_400]
theorem num_400 (y m d : Int) : num (y + 400) m d = num y m d + 146097 := by
  unfold num mo yd
  rw [lp_400]
  split <;> omega

theorem ages_j3 {y m d : Int} (h : ok y m d) (k : Nat) (hk : 2 ≤ k) : lombardlaw04_DayAges.j3 (k + 1) y m d = some true := by
  obtain ⟨a, b, _⟩ := h
  have hl := lp_01 y
  have b1 := dim_bd y 1
  have d12 : dim y 12 = 31 := by simp [dim]
  have o1 : ok y 1 1 := ⟨a, b, by omega, by omega, by omega, by omega⟩
  have o2 : ok y 12 31 := ⟨a, b, by omega, by omega, by omega, by omega⟩
  have s := mo_succ y 12 (by omega) (by omega)
  have t := mo_13 y
  rw [show (12 : Int) + 1 = 13 by rfl] at s
  have e : num y 12 31 - num y 1 1 = 364 + lp y := by rw [num_one]; unfold num; omega
  simp only [lombardlaw04_DayAges.j3]
  rw [from_ok o1 k hk, from_ok o2 k hk]
  simp only [Option.bind_some, if_true, leap]
  rw [e, w64 (by omega) (by omega)]
  by_cases c : lp y = 1
  · simp [c]
  · have c0 : lp y = 0 := by omega
    simp [c0]

theorem ages_j2 {y m d : Int} (h : ok y m d) (k : Nat) (hk : 3 ≤ k) : lombardlaw04_DayAges.j2 (k + 1) (num y m d) false y m d = some true := by
  obtain ⟨k, rfl⟩ : ∃ j, k = j + 1 := ⟨k - 1, by omega⟩
  have t := ages_j3 h k (by omega)
  have r := num_range h
  simp only [lombardlaw04_DayAges.j2, Bool.false_eq_true, if_false]
  have h0 := h
  obtain ⟨a, b, c, e, f, g⟩ := h0
  rw [w64 (n := y + 400) (by omega) (by omega)]
  by_cases c1 : y + 400 ≤ 9999
  · have o : ok (y + 400) m d := ⟨by omega, c1, c, e, f, by rw [dim_400]; exact g⟩
    rw [if_pos c1, from_ok o (k + 1) (by omega)]
    simp only [Option.bind_some, if_true]
    rw [num_400, w64 (by omega) (by omega), if_pos rfl]
    simp only [weekday, Option.bind_some]
    rw [if_pos (by omega)]
    exact t
  · rw [if_neg c1]
    exact t

theorem DayAges : lombardlaw04_DayAges.Pure := by
  intro y m d y' m' d' hy hm hd hy' hm' hd'
  refine ⟨30000, ?_⟩
  unfold lombardlaw04_DayAges.f
  rw [DayLaws.alive 30000 (by omega)]
  simp only [Option.bind_some, if_true]
  have t : ∀ k a b y m d y' m' d', lombardlaw04_DayAges.j0 (k + 1) a b true y m d y' m' d' = some true := by
    intro k a b y m d y' m' d'
    simp only [lombardlaw04_DayAges.j0, if_true]
  by_cases h : ok y m d
  · rw [from_ok h 30000 (by omega)]
    simp only [Option.bind_some, if_true]
    by_cases h' : ok y' m' d'
    · rw [from_ok h' 30000 (by omega)]
      simp only [Option.bind_some]
      have iff1 := num_lt_iff h h'
      have inj := num_inj h h'
      have j2 := ages_j2 h 29997 (by omega)
      have hj1 : ∀ b : Bool, b = decide (num y' m' d' > num y m d) → lombardlaw04_DayAges.j1 29999 (num y m d) (num y' m' d') b y m d y' m' d' = some true := by
        intro b hb
        have hb2 : (b != decide (num y' m' d' > num y m d)) = false := by rw [hb]; simp
        have hk : (29999 : Nat) = 29998 + 1 := rfl
        rw [hk]
        simp only [lombardlaw04_DayAges.j1, hb2, Bool.false_eq_true, if_false]
        have he : ((y == y' && (m == m' && (d == d'))) != (num y' m' d' == num y m d)) = false := by
          rw [bne_eq_false_iff_eq, Bool.eq_iff_iff]
          simp only [Bool.and_eq_true, beq_iff_eq]
          constructor
          · rintro ⟨rfl, rfl, rfl⟩
            rfl
          · intro e
            exact inj e.symm
        rw [he]
        exact j2
      have hne : ((0 : Int) != 0) = false := by decide
      rw [hne]
      have hk : (30000 : Nat) = 29999 + 1 := rfl
      rw [hk]
      simp only [lombardlaw04_DayAges.j0, Bool.false_eq_true, if_false]
      by_cases c1 : y' > y
      · rw [if_pos c1]
        exact hj1 true (by rw [eq_comm, decide_eq_true_eq]; exact iff1.2 (.inl c1))
      · rw [if_neg c1]
        by_cases c2 : y' = y
        · rw [if_pos c2]
          by_cases c3 : m' > m
          · rw [if_pos c3]
            exact hj1 true (by rw [eq_comm, decide_eq_true_eq]; exact iff1.2 (.inr ⟨c2.symm, .inl c3⟩))
          · rw [if_neg c3]
            by_cases c4 : m' = m
            · rw [if_pos c4]
              refine hj1 _ ?_
              rw [decide_eq_decide]
              show d < d' ↔ num y m d < num y' m' d'
              rw [iff1]
              omega
            · rw [if_neg c4]
              refine hj1 false ?_
              rw [eq_comm, decide_eq_false_iff_not]
              show ¬ (num y m d < num y' m' d')
              rw [iff1]
              omega
        · rw [if_neg c2]
          refine hj1 false ?_
          rw [eq_comm, decide_eq_false_iff_not]
          show ¬ (num y m d < num y' m' d')
          rw [iff1]
          omega
    · rw [from_no h' 30000 (by omega)]
      simp only [Option.bind_some]
      have hne : ((5 : Int) != 0) = true := by decide
      rw [hne]
      exact t _ _ _ _ _ _ _ _ _
  · rw [from_no h 30000 (by omega)]
    simp only [Option.bind_some]
    by_cases h' : ok y' m' d'
    · rw [from_ok h' 30000 (by omega)]
      simp only [Option.bind_some]
      rw [if_neg (by omega)]
      exact t _ _ _ _ _ _ _ _ _
    · rw [from_no h' 30000 (by omega)]
      simp only [Option.bind_some]
      rw [if_neg (by omega)]
      exact t _ _ _ _ _ _ _ _ _
end Go.Proofs.Ytdfaedikjfbbjaa.Pure
