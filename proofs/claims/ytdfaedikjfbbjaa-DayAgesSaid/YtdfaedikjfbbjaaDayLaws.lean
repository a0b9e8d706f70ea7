/-
  The four laws of days that speak without the document, over the functions that the program's text comes to.
  Conditions: those of each pure statement, nothing else.
-/
import Derived.Test.YtdfaedikjfbbjaaDayPure
import Derived.Test.YtdfaedikjfbbjaaSxLombardlaw04Alive
namespace Go.Proofs.Ytdfaedikjfbbjaa.DayLaws
set_option linter.unusedVariables false
set_option linter.unusedSimpArgs false
open Go.RowKit Go.Proofs.Ytdfaedikjfbbjaa.S Go.Proofs.Ytdfaedikjfbbjaa.XNum Go.Proofs.Ytdfaedikjfbbjaa.Cal Go.Proofs.Ytdfaedikjfbbjaa.DayPure Go.Proofs.YtdfaedikjfbbjaaW.PrintWords Go.Proofs.YtdfaedikjfbbjaaW.PrintLast

theorem alive (k : Nat) (hk : 20000 ≤ k) : lombardlaw04_alive.f k = some true := by
  have o1 : ok 2000 1 1 := by decide
  have o2 : ok 9999 12 31 := by decide
  have n1 : num 2000 1 1 = 730120 := by decide
  have n2 : num 9999 12 31 = 3652059 := by decide
  unfold lombardlaw04_alive.f
  rw [from_ok o1 k (by omega), ← n2, to_num o2 k hk, n1]
  simp only [Option.bind_some, weekday]
  decide
end Go.Proofs.Ytdfaedikjfbbjaa.DayLaws
