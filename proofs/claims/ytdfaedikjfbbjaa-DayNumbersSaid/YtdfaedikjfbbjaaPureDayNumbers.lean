/-
  DayNumbers, over plain numbers: any date's number, any number's date and weekday, any month's days, or the error, are the document's.
  Conditions: none beyond the pure statement's.
-/
import Derived.Test.YtdfaedikjfbbjaaDayLaws
import Derived.Test.YtdfaedikjfbbjaaDayRef
import Derived.Test.YtdfaedikjfbbjaaSxLombardlaw04DayNumbers
namespace Go.Proofs.Ytdfaedikjfbbjaa.Pure
set_option linter.unusedVariables false
set_option linter.unusedSimpArgs false
open Go.RowKit Go.Proofs.Ytdfaedikjfbbjaa.S Go.Proofs.Ytdfaedikjfbbjaa.XNum Go.Proofs.Ytdfaedikjfbbjaa.Cal Go.Proofs.Ytdfaedikjfbbjaa.DayPure Go.Proofs.YtdfaedikjfbbjaaW.PrintWords Go.Proofs.YtdfaedikjfbbjaaW.PrintLast

theorem DayNumbers : lombardlaw04_DayNumbers.Pure := by
  intro y m d n hy hm hd hn
  refine ⟨30000, ?_⟩
  have hfrom : ∃ r : Int × Int, day_From.f 30000 y m d = some r ∧ lombardref04_From.f 30000 y m d = some r := by
    by_cases h : ok y m d
    · exact ⟨_, from_ok h 30000 (by omega), DayRef.from_ok h 30000 (by omega)⟩
    · exact ⟨_, from_no h 30000 (by omega), DayRef.from_no h 30000 (by omega)⟩
  have hto : ∃ r : Int × Int × Int × Int, day_To.f 30000 n = some r ∧ lombardref04_To.f 30000 n = some r := by
    by_cases c : 1 ≤ n ∧ n ≤ 3652059
    · obtain ⟨y', m', d', o, e⟩ := date_of n c.1 c.2
      subst e
      exact ⟨_, to_num o 30000 (by omega), DayRef.to_num o 30000 (by omega)⟩
    · exact ⟨_, to_no (by omega) 30000 (by omega), DayRef.to_no (by omega) 30000 (by omega)⟩
  obtain ⟨r, h1, h2⟩ := hfrom
  obtain ⟨q, h3, h4⟩ := hto
  unfold lombardlaw04_DayNumbers.f
  rw [DayLaws.alive 30000 (by omega)]
  simp only [Option.bind_some, if_true, h1, h2, h3, h4, weekday, DayRef.weekday, leap, DayRef.leap, last_ev y m 30000 (by omega), DayRef.rlast]
  simp
end Go.Proofs.Ytdfaedikjfbbjaa.Pure
