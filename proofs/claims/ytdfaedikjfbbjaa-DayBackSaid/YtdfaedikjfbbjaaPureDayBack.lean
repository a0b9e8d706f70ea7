/-
  DayBack, over plain numbers: a number's date has that number; a date's number has that date.
  Conditions: none beyond the pure statement's.
-/
import Derived.Test.YtdfaedikjfbbjaaDayLaws
import Derived.Test.YtdfaedikjfbbjaaSxLombardlaw04DayBack
namespace Go.Proofs.Ytdfaedikjfbbjaa.Pure
set_option linter.unusedVariables false
set_option linter.unusedSimpArgs false
open Go.RowKit Go.Proofs.Ytdfaedikjfbbjaa.S Go.Proofs.Ytdfaedikjfbbjaa.XNum Go.Proofs.Ytdfaedikjfbbjaa.Cal Go.Proofs.Ytdfaedikjfbbjaa.DayPure Go.Proofs.YtdfaedikjfbbjaaW.PrintWords Go.Proofs.YtdfaedikjfbbjaaW.PrintLast

theorem back_j0 (y m d : Int) (k : Nat) (hk : 20000 ≤ k) : lombardlaw04_DayBack.j0 (k + 1) y m d = some true := by
  simp only [lombardlaw04_DayBack.j0]
  by_cases h : ok y m d
  · have r := num_range h
    rw [from_ok h k (by omega)]
    simp only [Option.bind_some, if_true]
    rw [to_num h k hk]
    simp [r.1, r.2]
  · have r := mt ok_last.2 h
    rw [from_no h k (by omega)]
    simp only [Option.bind_some]
    rw [if_neg (by omega), if_pos trivial, last_ev y m k (by omega)]
    simp only [Option.bind_some]
    split
    · rfl
    · congr 1
      exact decide_eq_true (by omega)

theorem DayBack : lombardlaw04_DayBack.Pure := by
  intro y m d n hy hm hd hn
  refine ⟨30000, ?_⟩
  unfold lombardlaw04_DayBack.f
  rw [DayLaws.alive 30000 (by omega)]
  simp only [Option.bind_some, if_true]
  have t := back_j0 y m d 29999 (by omega)
  by_cases c : 1 ≤ n ∧ n ≤ 3652059
  · obtain ⟨y', m', d', o, e, f⟩ := to_ok c.1 c.2
    rw [f 30000 (by omega)]
    simp only [Option.bind_some, if_true]
    rw [from_ok o 30000 (by omega), e]
    simp only [Option.bind_some, if_true]
    exact t
  · rw [to_no (by omega) 30000 (by omega)]
    simp only [Option.bind_some]
    rw [if_neg (by omega)]
    by_cases c1 : n ≥ 1
    · rw [if_pos c1, if_neg (by omega)]
      exact t
    · rw [if_neg c1]
      exact t
end Go.Proofs.Ytdfaedikjfbbjaa.Pure
