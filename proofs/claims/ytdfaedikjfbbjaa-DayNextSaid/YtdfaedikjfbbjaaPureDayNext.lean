/-
  DayNext, over plain numbers: the next day is the next one in the month, or the first of the next month, of the next year; its weekday is the next one.
  Conditions: none beyond the pure statement's.
-/
import Derived.Test.YtdfaedikjfbbjaaDayLaws
import Derived.Test.YtdfaedikjfbbjaaSxLombardlaw04DayNext
namespace Go.Proofs.Ytdfaedikjfbbjaa.Pure
set_option linter.unusedVariables false
set_option linter.unusedSimpArgs false
open Go.RowKit Go.Proofs.Ytdfaedikjfbbjaa.S Go.Proofs.Ytdfaedikjfbbjaa.XNum Go.Proofs.Ytdfaedikjfbbjaa.Cal Go.Proofs.Ytdfaedikjfbbjaa.DayPure Go.Proofs.YtdfaedikjfbbjaaW.PrintWords Go.Proofs.YtdfaedikjfbbjaaW.PrintLast

theorem last_of {y m d : Int} (h : ok y m d) : last y m = dim y m := by
  obtain ⟨a, b, c, e, _⟩ := h
  unfold last
  rw [if_pos (by omega)]

theorem next_j1 {y m d y' m' d' : Int} (h : ok y m d) (h' : ok y' m' d') (e : num y' m' d' = num y m d + 1) (k : Nat) :
    lombardlaw04_DayNext.j1 (k + 3) false y m d y' m' d' = some true := by
  have hl := last_of h
  have hb := dim_bd y m
  have h0 := h
  obtain ⟨a, b, c, f, g, i⟩ := h0
  simp only [lombardlaw04_DayNext.j1, last_k, Option.bind_some, Bool.false_eq_true, if_false]
  rw [w64 (n := d + 1) (by omega) (by omega), w64 (n := m + 1) (by omega) (by omega), w64 (n := y + 1) (by omega) (by omega), hl]
  by_cases c1 : d + 1 > dim y m
  · rw [if_pos c1]
    by_cases c2 : m + 1 > 12
    · rw [if_pos c2]
      have hy : y < 9999 := by
        by_cases hy : y < 9999
        · exact hy
        · have r := num_range h'
          have hm : m = 12 := by omega
          have hd : d = dim y m := by omega
          have hy' : y = 9999 := by omega
          subst hy' hm
          have t := mo_succ 9999 12 (by omega) (by omega)
          have u := mo_13 9999
          have v := yd_succ 9999
          rw [show (9999 : Int) + 1 = 10000 by rfl, yd_top] at v
          rw [show (12 : Int) + 1 = 13 by rfl] at t
          unfold num at e r
          omega
      obtain ⟨o, n⟩ := next_year h (by omega) (by omega) hy
      obtain ⟨rfl, rfl, rfl⟩ := num_inj h' o (by omega)
      simp
    · rw [if_neg c2]
      obtain ⟨o, n⟩ := next_month h (by omega) (by omega)
      obtain ⟨rfl, rfl, rfl⟩ := num_inj h' o (by omega)
      simp
  · rw [if_neg c1, if_neg (by omega)]
    obtain ⟨o, n⟩ := next_in h (by omega)
    obtain ⟨rfl, rfl, rfl⟩ := num_inj h' o (by omega)
    simp

theorem DayNext : lombardlaw04_DayNext.Pure := by
  intro n hn
  refine ⟨30000, ?_⟩
  unfold lombardlaw04_DayNext.f
  rw [DayLaws.alive 30000 (by omega)]
  simp only [Option.bind_some, if_true]
  have t : ∀ k, lombardlaw04_DayNext.j0 (k + 1) n true = some true := by
    intro k
    simp only [lombardlaw04_DayNext.j0, if_true]
  by_cases c1 : n < 1
  · rw [if_pos c1]
    exact t _
  · rw [if_neg c1]
    by_cases c2 : n ≥ 3652059
    · rw [decide_eq_true c2]
      exact t _
    · rw [decide_eq_false c2]
      obtain ⟨y, m, d, o, e, f⟩ := to_ok (n := n) (by omega) (by omega)
      obtain ⟨y', m', d', o', e', f'⟩ := to_ok (n := n + 1) (by omega) (by omega)
      have hk : (30000 : Nat) = 29999 + 1 := rfl
      rw [hk]
      simp only [lombardlaw04_DayNext.j0, Bool.false_eq_true, if_false]
      rw [w64 (n := n + 1) (by omega) (by omega), f 29999 (by omega), f' 29999 (by omega)]
      simp only [Option.bind_some, if_true, weekday]
      have hw : ((n + 1 + 6) % 7 != Int.tmod (wrap64 ((n + 6) % 7 + 1)) 7) = false := by
        rw [w64 (by omega) (by omega), tm_nn (by omega)]
        rw [bne_eq_false_iff_eq]
        omega
      rw [hw]
      exact next_j1 o o' (by omega) 29996
end Go.Proofs.Ytdfaedikjfbbjaa.Pure
