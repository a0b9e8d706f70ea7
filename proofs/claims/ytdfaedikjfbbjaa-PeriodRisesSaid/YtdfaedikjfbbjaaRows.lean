/-
  No cell of these rows narrows 'for every input' (looked for: loops, veiled, ifaces, maps, wideKeys, modest, calm, conditions, laid).
  DERIVED. THE GIVEN ROWS OF THIS SEAT. 11 by the template 'for every input the law returns true; each argument reads behind the call as it read before'; 0 by the template 'total and deterministic' (their statements: YtdfaedikjfbbjaaTotals.lean).
  GIVEN WITH THE SEED: the statements are not yours to turn. If you find one false, say at which input.
  Laid BY PROGRAM, IN A SANDBOX (cutbox-rows.mjs): the forced cells as the released guide's own fill.sh prints them over the translation afc20f8dbc5d4f4a… (all of the seat's roots in one cut). By AI agents, Wed Nov 11 2026. No macro, syntax, notation, axiom, sorry.
-/
import Derived.Test.YtdfaedikjfbbjaaChecked
import GoSem.Claim
import GoSem.ClaimJoined
import GoSem.ClaimMapViews
import Derived.JoinedTies
import Derived.KernelRfl
namespace Go.Proofs.Ytdfaedikjfbbjaa
/- THE CELL 'sum', in the pinned program and in every row, IS THE sha256 OF THE DUMP (.gsa) THAT YtdfaedikjfbbjaaProg.lean LOADS. Nothing in Lean hashes anything: it is a label: what it is worth is what the hold of that sum in a sandbox is worth. -/
noncomputable def Try.pinned : Pinned := { name := "ytdfaedikjfbbjaa", sum := "afc20f8dbc5d4f4a4510f2741a660029c8136ab01f9a80d0c13fab88073c7e31", checked := Try.checked }
namespace Rows
def none {H : Type} : Left H := { results := [], args := [] }

/-- 'lombardlaw04.DayNumbers': WHATEVER THE INPUT: true; the input reads as it did. -/
def dayNumbersSpec : ChangeSpec := { name := "dayNumbers", fn := fun _ => fun
  | [d1, d2] => { results := [.lit (.bool true)], args := [d1, d2] }
  | _ => none }
def dayNumbersRow : OpenClaim := { program := "ytdfaedikjfbbjaa", sum := "afc20f8dbc5d4f4a4510f2741a660029c8136ab01f9a80d0c13fab88073c7e31", func := "lombard/lombardlaw04.DayNumbers", spec := "dayNumbers", apart := false }
def DayNumbersSaid : Prop := dayNumbersRow.holds Try.pinned (OpenSpec.ofChange dayNumbersSpec)

/-- ITS FALSE NEIGHBOUR: 'it returns false'. Refute it at one input. -/
def dayNumbersWrong : ChangeSpec := { name := "dayNumbers", fn := fun _ => fun
  | [d1, d2] => { results := [.lit (.bool false)], args := [d1, d2] }
  | _ => none }
def DayNumbersWrongFalsely : Prop := dayNumbersRow.holds Try.pinned (OpenSpec.ofChange dayNumbersWrong)

/-- 'lombardlaw04.DayBack': WHATEVER THE INPUT: true; the input reads as it did. -/
def dayBackSpec : ChangeSpec := { name := "dayBack", fn := fun _ => fun
  | [d1, d2] => { results := [.lit (.bool true)], args := [d1, d2] }
  | _ => none }
def dayBackRow : OpenClaim := { program := "ytdfaedikjfbbjaa", sum := "afc20f8dbc5d4f4a4510f2741a660029c8136ab01f9a80d0c13fab88073c7e31", func := "lombard/lombardlaw04.DayBack", spec := "dayBack", apart := false }
def DayBackSaid : Prop := dayBackRow.holds Try.pinned (OpenSpec.ofChange dayBackSpec)

/-- ITS FALSE NEIGHBOUR: 'it returns false'. Refute it at one input. -/
def dayBackWrong : ChangeSpec := { name := "dayBack", fn := fun _ => fun
  | [d1, d2] => { results := [.lit (.bool false)], args := [d1, d2] }
  | _ => none }
def DayBackWrongFalsely : Prop := dayBackRow.holds Try.pinned (OpenSpec.ofChange dayBackWrong)

/-- 'lombardlaw04.DayNext': WHATEVER THE INPUT: true; the input reads as it did. -/
def dayNextSpec : ChangeSpec := { name := "dayNext", fn := fun _ => fun
  | [d] => { results := [.lit (.bool true)], args := [d] }
  | _ => none }
def dayNextRow : OpenClaim := { program := "ytdfaedikjfbbjaa", sum := "afc20f8dbc5d4f4a4510f2741a660029c8136ab01f9a80d0c13fab88073c7e31", func := "lombard/lombardlaw04.DayNext", spec := "dayNext", apart := false }
def DayNextSaid : Prop := dayNextRow.holds Try.pinned (OpenSpec.ofChange dayNextSpec)

/-- ITS FALSE NEIGHBOUR: 'it returns false'. Refute it at one input. -/
def dayNextWrong : ChangeSpec := { name := "dayNext", fn := fun _ => fun
  | [d] => { results := [.lit (.bool false)], args := [d] }
  | _ => none }
def DayNextWrongFalsely : Prop := dayNextRow.holds Try.pinned (OpenSpec.ofChange dayNextWrong)

/-- 'lombardlaw04.DayAges': WHATEVER THE INPUT: true; the input reads as it did. -/
def dayAgesSpec : ChangeSpec := { name := "dayAges", fn := fun _ => fun
  | [d1, d2] => { results := [.lit (.bool true)], args := [d1, d2] }
  | _ => none }
def dayAgesRow : OpenClaim := { program := "ytdfaedikjfbbjaa", sum := "afc20f8dbc5d4f4a4510f2741a660029c8136ab01f9a80d0c13fab88073c7e31", func := "lombard/lombardlaw04.DayAges", spec := "dayAges", apart := false }
def DayAgesSaid : Prop := dayAgesRow.holds Try.pinned (OpenSpec.ofChange dayAgesSpec)

/-- ITS FALSE NEIGHBOUR: 'it returns false'. Refute it at one input. -/
def dayAgesWrong : ChangeSpec := { name := "dayAges", fn := fun _ => fun
  | [d1, d2] => { results := [.lit (.bool false)], args := [d1, d2] }
  | _ => none }
def DayAgesWrongFalsely : Prop := dayAgesRow.holds Try.pinned (OpenSpec.ofChange dayAgesWrong)

/-- 'lombardlaw04.DayMonths': WHATEVER THE INPUT: true; the input reads as it did. -/
def dayMonthsSpec : ChangeSpec := { name := "dayMonths", fn := fun _ => fun
  | [d] => { results := [.lit (.bool true)], args := [d] }
  | _ => none }
def dayMonthsRow : OpenClaim := { program := "ytdfaedikjfbbjaa", sum := "afc20f8dbc5d4f4a4510f2741a660029c8136ab01f9a80d0c13fab88073c7e31", func := "lombard/lombardlaw04.DayMonths", spec := "dayMonths", apart := false }
def DayMonthsSaid : Prop := dayMonthsRow.holds Try.pinned (OpenSpec.ofChange dayMonthsSpec)

/-- ITS FALSE NEIGHBOUR: 'it returns false'. Refute it at one input. -/
def dayMonthsWrong : ChangeSpec := { name := "dayMonths", fn := fun _ => fun
  | [d] => { results := [.lit (.bool false)], args := [d] }
  | _ => none }
def DayMonthsWrongFalsely : Prop := dayMonthsRow.holds Try.pinned (OpenSpec.ofChange dayMonthsWrong)

/-- 'lombardlaw06.PeriodRolls': WHATEVER THE INPUT: true; the input reads as it did. -/
def periodRollsSpec : ChangeSpec := { name := "periodRolls", fn := fun _ => fun
  | [d1, d2, d3] => { results := [.lit (.bool true)], args := [d1, d2, d3] }
  | _ => none }
def periodRollsRow : OpenClaim := { program := "ytdfaedikjfbbjaa", sum := "afc20f8dbc5d4f4a4510f2741a660029c8136ab01f9a80d0c13fab88073c7e31", func := "lombard/lombardlaw06.PeriodRolls", spec := "periodRolls", unfollowed := true, recurses := true, apart := false }
def PeriodRollsSaid : Prop := periodRollsRow.holds Try.pinned (OpenSpec.ofChange periodRollsSpec)

/-- ITS FALSE NEIGHBOUR: 'it returns false'. Refute it at one input. -/
def periodRollsWrong : ChangeSpec := { name := "periodRolls", fn := fun _ => fun
  | [d1, d2, d3] => { results := [.lit (.bool false)], args := [d1, d2, d3] }
  | _ => none }
def PeriodRollsWrongFalsely : Prop := periodRollsRow.holds Try.pinned (OpenSpec.ofChange periodRollsWrong)

/-- 'lombardlaw06.PeriodBack': WHATEVER THE INPUT: true; the input reads as it did. -/
def periodBackSpec : ChangeSpec := { name := "periodBack", fn := fun _ => fun
  | [d1, d2, d3] => { results := [.lit (.bool true)], args := [d1, d2, d3] }
  | _ => none }
def periodBackRow : OpenClaim := { program := "ytdfaedikjfbbjaa", sum := "afc20f8dbc5d4f4a4510f2741a660029c8136ab01f9a80d0c13fab88073c7e31", func := "lombard/lombardlaw06.PeriodBack", spec := "periodBack", unfollowed := true, recurses := true, apart := false }
def PeriodBackSaid : Prop := periodBackRow.holds Try.pinned (OpenSpec.ofChange periodBackSpec)

/-- ITS FALSE NEIGHBOUR: 'it returns false'. Refute it at one input. -/
def periodBackWrong : ChangeSpec := { name := "periodBack", fn := fun _ => fun
  | [d1, d2, d3] => { results := [.lit (.bool false)], args := [d1, d2, d3] }
  | _ => none }
def PeriodBackWrongFalsely : Prop := periodBackRow.holds Try.pinned (OpenSpec.ofChange periodBackWrong)

/-- 'lombardlaw06.PeriodWorks': WHATEVER THE INPUT: true; the input reads as it did. -/
def periodWorksSpec : ChangeSpec := { name := "periodWorks", fn := fun _ => fun
  | [d1, d2] => { results := [.lit (.bool true)], args := [d1, d2] }
  | _ => none }
def periodWorksRow : OpenClaim := { program := "ytdfaedikjfbbjaa", sum := "afc20f8dbc5d4f4a4510f2741a660029c8136ab01f9a80d0c13fab88073c7e31", func := "lombard/lombardlaw06.PeriodWorks", spec := "periodWorks", unfollowed := true, recurses := true, apart := false }
def PeriodWorksSaid : Prop := periodWorksRow.holds Try.pinned (OpenSpec.ofChange periodWorksSpec)

/-- ITS FALSE NEIGHBOUR: 'it returns false'. Refute it at one input. -/
def periodWorksWrong : ChangeSpec := { name := "periodWorks", fn := fun _ => fun
  | [d1, d2] => { results := [.lit (.bool false)], args := [d1, d2] }
  | _ => none }
def PeriodWorksWrongFalsely : Prop := periodWorksRow.holds Try.pinned (OpenSpec.ofChange periodWorksWrong)

/-- 'lombardlaw06.PeriodMonths': WHATEVER THE INPUT: true; the input reads as it did. -/
def periodMonthsSpec : ChangeSpec := { name := "periodMonths", fn := fun _ => fun
  | [d] => { results := [.lit (.bool true)], args := [d] }
  | _ => none }
def periodMonthsRow : OpenClaim := { program := "ytdfaedikjfbbjaa", sum := "afc20f8dbc5d4f4a4510f2741a660029c8136ab01f9a80d0c13fab88073c7e31", func := "lombard/lombardlaw06.PeriodMonths", spec := "periodMonths", unfollowed := true, recurses := true, apart := false }
def PeriodMonthsSaid : Prop := periodMonthsRow.holds Try.pinned (OpenSpec.ofChange periodMonthsSpec)

/-- ITS FALSE NEIGHBOUR: 'it returns false'. Refute it at one input. -/
def periodMonthsWrong : ChangeSpec := { name := "periodMonths", fn := fun _ => fun
  | [d] => { results := [.lit (.bool false)], args := [d] }
  | _ => none }
def PeriodMonthsWrongFalsely : Prop := periodMonthsRow.holds Try.pinned (OpenSpec.ofChange periodMonthsWrong)

/-- 'lombardlaw06.PeriodRises': WHATEVER THE INPUT: true; the input reads as it did. -/
def periodRisesSpec : ChangeSpec := { name := "periodRises", fn := fun _ => fun
  | [d1, d2] => { results := [.lit (.bool true)], args := [d1, d2] }
  | _ => none }
def periodRisesRow : OpenClaim := { program := "ytdfaedikjfbbjaa", sum := "afc20f8dbc5d4f4a4510f2741a660029c8136ab01f9a80d0c13fab88073c7e31", func := "lombard/lombardlaw06.PeriodRises", spec := "periodRises", unfollowed := true, recurses := true, apart := false }
def PeriodRisesSaid : Prop := periodRisesRow.holds Try.pinned (OpenSpec.ofChange periodRisesSpec)

/-- ITS FALSE NEIGHBOUR: 'it returns false'. Refute it at one input. -/
def periodRisesWrong : ChangeSpec := { name := "periodRises", fn := fun _ => fun
  | [d1, d2] => { results := [.lit (.bool false)], args := [d1, d2] }
  | _ => none }
def PeriodRisesWrongFalsely : Prop := periodRisesRow.holds Try.pinned (OpenSpec.ofChange periodRisesWrong)

/-- 'lombardlaw06.PeriodEnds': WHATEVER THE INPUT: true; the input reads as it did. -/
def periodEndsSpec : ChangeSpec := { name := "periodEnds", fn := fun _ => fun
  | [d1, d2, d3] => { results := [.lit (.bool true)], args := [d1, d2, d3] }
  | _ => none }
def periodEndsRow : OpenClaim := { program := "ytdfaedikjfbbjaa", sum := "afc20f8dbc5d4f4a4510f2741a660029c8136ab01f9a80d0c13fab88073c7e31", func := "lombard/lombardlaw06.PeriodEnds", spec := "periodEnds", unfollowed := true, recurses := true, apart := false }
def PeriodEndsSaid : Prop := periodEndsRow.holds Try.pinned (OpenSpec.ofChange periodEndsSpec)

/-- ITS FALSE NEIGHBOUR: 'it returns false'. Refute it at one input. -/
def periodEndsWrong : ChangeSpec := { name := "periodEnds", fn := fun _ => fun
  | [d1, d2, d3] => { results := [.lit (.bool false)], args := [d1, d2, d3] }
  | _ => none }
def PeriodEndsWrongFalsely : Prop := periodEndsRow.holds Try.pinned (OpenSpec.ofChange periodEndsWrong)

/- THE SECOND FORM. 'bulk': how many values and letters a reading holds, each counted each time it is reached (what is shared counts as often as it is met; a slice's spare places count too). A statement '..UptoSaid' is the law's where the arguments, and the package variables that the reading takes, are together of bulk at most 1048576: NARROWER than '..Said'. Prove '..Said' where nothing that the law and all that it calls make is longer than what came in: it says more and counts as full. Else prove '..UptoSaid'. A law counts once. -/
mutual
def uptoBulk {H : Type} : DataW H → Nat
  | .lit (.string bytes) => bytes.length + 1
  | .lit _ => 1
  | .nil => 1
  | .ptr d => uptoBulk d + 1
  | .slice elems spare => uptoBulkAll elems + uptoBulkAll spare + 1
  | .agg parts => uptoBulkAll parts + 1
  | .iface _ d => uptoBulk d + 1
  | .map entries => uptoBulkEntries entries + 1
  | .held _ => 1
def uptoBulkAll {H : Type} : List (DataW H) → Nat
  | [] => 0
  | d :: r => uptoBulk d + uptoBulkAll r
def uptoBulkEntries {H : Type} : List (Lit × DataW H) → Nat
  | [] => 0
  | x :: r => uptoBulkEntry x + uptoBulkEntries r
def uptoBulkEntry {H : Type} : Lit × DataW H → Nat
  | (.string bytes, d) => bytes.length + uptoBulk d + 1
  | (_, d) => uptoBulk d + 1
 end
def uptoSmall : (H : Type) → List (DataW H) → Bool := fun _ ds => decide (uptoBulkAll ds ≤ 1048576)
def OpenSpec.upto (s : _root_.Go.ChangeSpec) : _root_.Go.OpenSpec := { _root_.Go.OpenSpec.ofChange s with cond := some uptoSmall }

/-- 'lombardlaw04.DayNumbers', WHERE WHAT IT READS IS OF BULK AT MOST 1048576: true; the input reads as it did. -/
def dayNumbersUptoRow : OpenClaim := { program := "ytdfaedikjfbbjaa", sum := "afc20f8dbc5d4f4a4510f2741a660029c8136ab01f9a80d0c13fab88073c7e31", func := "lombard/lombardlaw04.DayNumbers", spec := "dayNumbers", apart := false, narrowed := true }
def DayNumbersUptoSaid : Prop := dayNumbersUptoRow.holds Try.pinned (OpenSpec.upto dayNumbersSpec)

/-- 'lombardlaw04.DayBack', WHERE WHAT IT READS IS OF BULK AT MOST 1048576: true; the input reads as it did. -/
def dayBackUptoRow : OpenClaim := { program := "ytdfaedikjfbbjaa", sum := "afc20f8dbc5d4f4a4510f2741a660029c8136ab01f9a80d0c13fab88073c7e31", func := "lombard/lombardlaw04.DayBack", spec := "dayBack", apart := false, narrowed := true }
def DayBackUptoSaid : Prop := dayBackUptoRow.holds Try.pinned (OpenSpec.upto dayBackSpec)

/-- 'lombardlaw04.DayNext', WHERE WHAT IT READS IS OF BULK AT MOST 1048576: true; the input reads as it did. -/
def dayNextUptoRow : OpenClaim := { program := "ytdfaedikjfbbjaa", sum := "afc20f8dbc5d4f4a4510f2741a660029c8136ab01f9a80d0c13fab88073c7e31", func := "lombard/lombardlaw04.DayNext", spec := "dayNext", apart := false, narrowed := true }
def DayNextUptoSaid : Prop := dayNextUptoRow.holds Try.pinned (OpenSpec.upto dayNextSpec)

/-- 'lombardlaw04.DayAges', WHERE WHAT IT READS IS OF BULK AT MOST 1048576: true; the input reads as it did. -/
def dayAgesUptoRow : OpenClaim := { program := "ytdfaedikjfbbjaa", sum := "afc20f8dbc5d4f4a4510f2741a660029c8136ab01f9a80d0c13fab88073c7e31", func := "lombard/lombardlaw04.DayAges", spec := "dayAges", apart := false, narrowed := true }
def DayAgesUptoSaid : Prop := dayAgesUptoRow.holds Try.pinned (OpenSpec.upto dayAgesSpec)

/-- 'lombardlaw04.DayMonths', WHERE WHAT IT READS IS OF BULK AT MOST 1048576: true; the input reads as it did. -/
def dayMonthsUptoRow : OpenClaim := { program := "ytdfaedikjfbbjaa", sum := "afc20f8dbc5d4f4a4510f2741a660029c8136ab01f9a80d0c13fab88073c7e31", func := "lombard/lombardlaw04.DayMonths", spec := "dayMonths", apart := false, narrowed := true }
def DayMonthsUptoSaid : Prop := dayMonthsUptoRow.holds Try.pinned (OpenSpec.upto dayMonthsSpec)

/-- 'lombardlaw06.PeriodRolls', WHERE WHAT IT READS IS OF BULK AT MOST 1048576: true; the input reads as it did. -/
def periodRollsUptoRow : OpenClaim := { program := "ytdfaedikjfbbjaa", sum := "afc20f8dbc5d4f4a4510f2741a660029c8136ab01f9a80d0c13fab88073c7e31", func := "lombard/lombardlaw06.PeriodRolls", spec := "periodRolls", unfollowed := true, recurses := true, apart := false, narrowed := true }
def PeriodRollsUptoSaid : Prop := periodRollsUptoRow.holds Try.pinned (OpenSpec.upto periodRollsSpec)

/-- 'lombardlaw06.PeriodBack', WHERE WHAT IT READS IS OF BULK AT MOST 1048576: true; the input reads as it did. -/
def periodBackUptoRow : OpenClaim := { program := "ytdfaedikjfbbjaa", sum := "afc20f8dbc5d4f4a4510f2741a660029c8136ab01f9a80d0c13fab88073c7e31", func := "lombard/lombardlaw06.PeriodBack", spec := "periodBack", unfollowed := true, recurses := true, apart := false, narrowed := true }
def PeriodBackUptoSaid : Prop := periodBackUptoRow.holds Try.pinned (OpenSpec.upto periodBackSpec)

/-- 'lombardlaw06.PeriodWorks', WHERE WHAT IT READS IS OF BULK AT MOST 1048576: true; the input reads as it did. -/
def periodWorksUptoRow : OpenClaim := { program := "ytdfaedikjfbbjaa", sum := "afc20f8dbc5d4f4a4510f2741a660029c8136ab01f9a80d0c13fab88073c7e31", func := "lombard/lombardlaw06.PeriodWorks", spec := "periodWorks", unfollowed := true, recurses := true, apart := false, narrowed := true }
def PeriodWorksUptoSaid : Prop := periodWorksUptoRow.holds Try.pinned (OpenSpec.upto periodWorksSpec)

/-- 'lombardlaw06.PeriodMonths', WHERE WHAT IT READS IS OF BULK AT MOST 1048576: true; the input reads as it did. -/
def periodMonthsUptoRow : OpenClaim := { program := "ytdfaedikjfbbjaa", sum := "afc20f8dbc5d4f4a4510f2741a660029c8136ab01f9a80d0c13fab88073c7e31", func := "lombard/lombardlaw06.PeriodMonths", spec := "periodMonths", unfollowed := true, recurses := true, apart := false, narrowed := true }
def PeriodMonthsUptoSaid : Prop := periodMonthsUptoRow.holds Try.pinned (OpenSpec.upto periodMonthsSpec)

/-- 'lombardlaw06.PeriodRises', WHERE WHAT IT READS IS OF BULK AT MOST 1048576: true; the input reads as it did. -/
def periodRisesUptoRow : OpenClaim := { program := "ytdfaedikjfbbjaa", sum := "afc20f8dbc5d4f4a4510f2741a660029c8136ab01f9a80d0c13fab88073c7e31", func := "lombard/lombardlaw06.PeriodRises", spec := "periodRises", unfollowed := true, recurses := true, apart := false, narrowed := true }
def PeriodRisesUptoSaid : Prop := periodRisesUptoRow.holds Try.pinned (OpenSpec.upto periodRisesSpec)

/-- 'lombardlaw06.PeriodEnds', WHERE WHAT IT READS IS OF BULK AT MOST 1048576: true; the input reads as it did. -/
def periodEndsUptoRow : OpenClaim := { program := "ytdfaedikjfbbjaa", sum := "afc20f8dbc5d4f4a4510f2741a660029c8136ab01f9a80d0c13fab88073c7e31", func := "lombard/lombardlaw06.PeriodEnds", spec := "periodEnds", unfollowed := true, recurses := true, apart := false, narrowed := true }
def PeriodEndsUptoSaid : Prop := periodEndsUptoRow.holds Try.pinned (OpenSpec.upto periodEndsSpec)

end Rows
end Go.Proofs.Ytdfaedikjfbbjaa
