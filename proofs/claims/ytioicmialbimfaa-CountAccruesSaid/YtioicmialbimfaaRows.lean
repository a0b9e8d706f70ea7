/-
  No cell of these rows narrows 'for every input' (looked for: loops, veiled, ifaces, maps, wideKeys, modest, calm, conditions, laid).
  DERIVED. THE GIVEN ROWS OF THIS SEAT. 11 by the template 'for every input the law returns true; each argument reads behind the call as it read before'; 0 by the template 'total and deterministic' (their statements: YtioicmialbimfaaTotals.lean).
  GIVEN WITH THE SEED: the statements are not yours to turn. If you find one false, say at which input.
  Laid BY PROGRAM, IN A SANDBOX (cutbox-rows.mjs): the forced cells as the released guide's own fill.sh prints them over the translation afa8d918ec1f5a2f… (all of the seat's roots in one cut). By AI agents, Wed Nov 11 2026. No macro, syntax, notation, axiom, sorry.
-/
import Derived.Test.YtioicmialbimfaaChecked
import GoSem.Claim
import GoSem.ClaimJoined
import GoSem.ClaimMapViews
import Derived.JoinedTies
import Derived.KernelRfl
namespace Go.Proofs.Ytioicmialbimfaa
/- THE CELL 'sum', in the pinned program and in every row, IS THE sha256 OF THE DUMP (.gsa) THAT YtioicmialbimfaaProg.lean LOADS. Nothing in Lean hashes anything: it is a label: what it is worth is what the hold of that sum in a sandbox is worth. -/
noncomputable def Try.pinned : Pinned := { name := "ytioicmialbimfaa", sum := "afa8d918ec1f5a2f30174f05fcfdde6ebf39c9fb7422f64ca304b27fbfd5b5da", checked := Try.checked }
namespace Rows
def none {H : Type} : Left H := { results := [], args := [] }

/-- 'lombardlaw03.RateReckons': WHATEVER THE INPUT: true; the input reads as it did. -/
def rateReckonsSpec : ChangeSpec := { name := "rateReckons", fn := fun _ => fun
  | [d1, d2] => { results := [.lit (.bool true)], args := [d1, d2] }
  | _ => none }
def rateReckonsRow : OpenClaim := { program := "ytioicmialbimfaa", sum := "afa8d918ec1f5a2f30174f05fcfdde6ebf39c9fb7422f64ca304b27fbfd5b5da", func := "lombard/lombardlaw03.RateReckons", spec := "rateReckons", inPlace := ["math/bits.Sub64", "math/bits.Add64"], unfollowed := true, recurses := true, named := ["math/bits.divideError", "math/bits.overflowError"], apart := false }
def RateReckonsSaid : Prop := rateReckonsRow.holds Try.pinned (OpenSpec.ofChange rateReckonsSpec)

/-- ITS FALSE NEIGHBOUR: 'it returns false'. Refute it at one input. -/
def rateReckonsWrong : ChangeSpec := { name := "rateReckons", fn := fun _ => fun
  | [d1, d2] => { results := [.lit (.bool false)], args := [d1, d2] }
  | _ => none }
def RateReckonsWrongFalsely : Prop := rateReckonsRow.holds Try.pinned (OpenSpec.ofChange rateReckonsWrong)

/-- 'lombardlaw03.RateBack': WHATEVER THE INPUT: true; the input reads as it did. -/
def rateBackSpec : ChangeSpec := { name := "rateBack", fn := fun _ => fun
  | [d1, d2] => { results := [.lit (.bool true)], args := [d1, d2] }
  | _ => none }
def rateBackRow : OpenClaim := { program := "ytioicmialbimfaa", sum := "afa8d918ec1f5a2f30174f05fcfdde6ebf39c9fb7422f64ca304b27fbfd5b5da", func := "lombard/lombardlaw03.RateBack", spec := "rateBack", inPlace := ["math/bits.Sub64", "math/bits.Add64"], unfollowed := true, recurses := true, named := ["math/bits.divideError", "math/bits.overflowError"], apart := false }
def RateBackSaid : Prop := rateBackRow.holds Try.pinned (OpenSpec.ofChange rateBackSpec)

/-- ITS FALSE NEIGHBOUR: 'it returns false'. Refute it at one input. -/
def rateBackWrong : ChangeSpec := { name := "rateBack", fn := fun _ => fun
  | [d1, d2] => { results := [.lit (.bool false)], args := [d1, d2] }
  | _ => none }
def RateBackWrongFalsely : Prop := rateBackRow.holds Try.pinned (OpenSpec.ofChange rateBackWrong)

/-- 'lombardlaw03.RateMore': WHATEVER THE INPUT: true; the input reads as it did. -/
def rateMoreSpec : ChangeSpec := { name := "rateMore", fn := fun _ => fun
  | [d] => { results := [.lit (.bool true)], args := [d] }
  | _ => none }
def rateMoreRow : OpenClaim := { program := "ytioicmialbimfaa", sum := "afa8d918ec1f5a2f30174f05fcfdde6ebf39c9fb7422f64ca304b27fbfd5b5da", func := "lombard/lombardlaw03.RateMore", spec := "rateMore", inPlace := ["math/bits.Sub64", "math/bits.Add64"], unfollowed := true, recurses := true, named := ["math/bits.divideError", "math/bits.overflowError"], apart := false }
def RateMoreSaid : Prop := rateMoreRow.holds Try.pinned (OpenSpec.ofChange rateMoreSpec)

/-- ITS FALSE NEIGHBOUR: 'it returns false'. Refute it at one input. -/
def rateMoreWrong : ChangeSpec := { name := "rateMore", fn := fun _ => fun
  | [d] => { results := [.lit (.bool false)], args := [d] }
  | _ => none }
def RateMoreWrongFalsely : Prop := rateMoreRow.holds Try.pinned (OpenSpec.ofChange rateMoreWrong)

/-- 'lombardlaw03.RateSteps': WHATEVER THE INPUT: true; the input reads as it did. -/
def rateStepsSpec : ChangeSpec := { name := "rateSteps", fn := fun _ => fun
  | [d1, d2, d3] => { results := [.lit (.bool true)], args := [d1, d2, d3] }
  | _ => none }
def rateStepsRow : OpenClaim := { program := "ytioicmialbimfaa", sum := "afa8d918ec1f5a2f30174f05fcfdde6ebf39c9fb7422f64ca304b27fbfd5b5da", func := "lombard/lombardlaw03.RateSteps", spec := "rateSteps", inPlace := ["math/bits.Sub64", "math/bits.Add64"], unfollowed := true, recurses := true, named := ["math/bits.divideError", "math/bits.overflowError"], apart := false }
def RateStepsSaid : Prop := rateStepsRow.holds Try.pinned (OpenSpec.ofChange rateStepsSpec)

/-- ITS FALSE NEIGHBOUR: 'it returns false'. Refute it at one input. -/
def rateStepsWrong : ChangeSpec := { name := "rateSteps", fn := fun _ => fun
  | [d1, d2, d3] => { results := [.lit (.bool false)], args := [d1, d2, d3] }
  | _ => none }
def RateStepsWrongFalsely : Prop := rateStepsRow.holds Try.pinned (OpenSpec.ofChange rateStepsWrong)

/-- 'lombardlaw03.RatePowers': WHATEVER THE INPUT: true; the input reads as it did. -/
def ratePowersSpec : ChangeSpec := { name := "ratePowers", fn := fun _ => fun
  | [d] => { results := [.lit (.bool true)], args := [d] }
  | _ => none }
def ratePowersRow : OpenClaim := { program := "ytioicmialbimfaa", sum := "afa8d918ec1f5a2f30174f05fcfdde6ebf39c9fb7422f64ca304b27fbfd5b5da", func := "lombard/lombardlaw03.RatePowers", spec := "ratePowers", inPlace := ["math/bits.Sub64", "math/bits.Add64"], unfollowed := true, recurses := true, named := ["math/bits.divideError", "math/bits.overflowError"], apart := false }
def RatePowersSaid : Prop := ratePowersRow.holds Try.pinned (OpenSpec.ofChange ratePowersSpec)

/-- ITS FALSE NEIGHBOUR: 'it returns false'. Refute it at one input. -/
def ratePowersWrong : ChangeSpec := { name := "ratePowers", fn := fun _ => fun
  | [d] => { results := [.lit (.bool false)], args := [d] }
  | _ => none }
def RatePowersWrongFalsely : Prop := ratePowersRow.holds Try.pinned (OpenSpec.ofChange ratePowersWrong)

/-- 'lombardlaw03.RateParts': WHATEVER THE INPUT: true; the input reads as it did. -/
def ratePartsSpec : ChangeSpec := { name := "rateParts", fn := fun _ => fun
  | [d1, d2, d3] => { results := [.lit (.bool true)], args := [d1, d2, d3] }
  | _ => none }
def ratePartsRow : OpenClaim := { program := "ytioicmialbimfaa", sum := "afa8d918ec1f5a2f30174f05fcfdde6ebf39c9fb7422f64ca304b27fbfd5b5da", func := "lombard/lombardlaw03.RateParts", spec := "rateParts", inPlace := ["math/bits.Sub64", "math/bits.Add64"], unfollowed := true, recurses := true, named := ["math/bits.divideError", "math/bits.overflowError"], apart := false }
def RatePartsSaid : Prop := ratePartsRow.holds Try.pinned (OpenSpec.ofChange ratePartsSpec)

/-- ITS FALSE NEIGHBOUR: 'it returns false'. Refute it at one input. -/
def ratePartsWrong : ChangeSpec := { name := "rateParts", fn := fun _ => fun
  | [d1, d2, d3] => { results := [.lit (.bool false)], args := [d1, d2, d3] }
  | _ => none }
def RatePartsWrongFalsely : Prop := ratePartsRow.holds Try.pinned (OpenSpec.ofChange ratePartsWrong)

/-- 'lombardlaw05.CountAccrues': WHATEVER THE INPUT: true; the input reads as it did. -/
def countAccruesSpec : ChangeSpec := { name := "countAccrues", fn := fun _ => fun
  | [d] => { results := [.lit (.bool true)], args := [d] }
  | _ => none }
def countAccruesRow : OpenClaim := { program := "ytioicmialbimfaa", sum := "afa8d918ec1f5a2f30174f05fcfdde6ebf39c9fb7422f64ca304b27fbfd5b5da", func := "lombard/lombardlaw05.CountAccrues", spec := "countAccrues", inPlace := ["math/bits.Sub64", "math/bits.Add64"], unfollowed := true, recurses := true, named := ["math/bits.divideError", "math/bits.overflowError"], apart := false }
def CountAccruesSaid : Prop := countAccruesRow.holds Try.pinned (OpenSpec.ofChange countAccruesSpec)

/-- ITS FALSE NEIGHBOUR: 'it returns false'. Refute it at one input. -/
def countAccruesWrong : ChangeSpec := { name := "countAccrues", fn := fun _ => fun
  | [d] => { results := [.lit (.bool false)], args := [d] }
  | _ => none }
def CountAccruesWrongFalsely : Prop := countAccruesRow.holds Try.pinned (OpenSpec.ofChange countAccruesWrong)

/-- 'lombardlaw05.CountTurns': WHATEVER THE INPUT: true; the input reads as it did. -/
def countTurnsSpec : ChangeSpec := { name := "countTurns", fn := fun _ => fun
  | [d1, d2, d3] => { results := [.lit (.bool true)], args := [d1, d2, d3] }
  | _ => none }
def countTurnsRow : OpenClaim := { program := "ytioicmialbimfaa", sum := "afa8d918ec1f5a2f30174f05fcfdde6ebf39c9fb7422f64ca304b27fbfd5b5da", func := "lombard/lombardlaw05.CountTurns", spec := "countTurns", inPlace := ["math/bits.Sub64", "math/bits.Add64"], unfollowed := true, recurses := true, named := ["math/bits.divideError", "math/bits.overflowError"], apart := false }
def CountTurnsSaid : Prop := countTurnsRow.holds Try.pinned (OpenSpec.ofChange countTurnsSpec)

/-- ITS FALSE NEIGHBOUR: 'it returns false'. Refute it at one input. -/
def countTurnsWrong : ChangeSpec := { name := "countTurns", fn := fun _ => fun
  | [d1, d2, d3] => { results := [.lit (.bool false)], args := [d1, d2, d3] }
  | _ => none }
def CountTurnsWrongFalsely : Prop := countTurnsRow.holds Try.pinned (OpenSpec.ofChange countTurnsWrong)

/-- 'lombardlaw05.CountYears': WHATEVER THE INPUT: true; the input reads as it did. -/
def countYearsSpec : ChangeSpec := { name := "countYears", fn := fun _ => fun
  | [d] => { results := [.lit (.bool true)], args := [d] }
  | _ => none }
def countYearsRow : OpenClaim := { program := "ytioicmialbimfaa", sum := "afa8d918ec1f5a2f30174f05fcfdde6ebf39c9fb7422f64ca304b27fbfd5b5da", func := "lombard/lombardlaw05.CountYears", spec := "countYears", inPlace := ["math/bits.Sub64", "math/bits.Add64"], unfollowed := true, recurses := true, named := ["math/bits.divideError", "math/bits.overflowError"], apart := false }
def CountYearsSaid : Prop := countYearsRow.holds Try.pinned (OpenSpec.ofChange countYearsSpec)

/-- ITS FALSE NEIGHBOUR: 'it returns false'. Refute it at one input. -/
def countYearsWrong : ChangeSpec := { name := "countYears", fn := fun _ => fun
  | [d] => { results := [.lit (.bool false)], args := [d] }
  | _ => none }
def CountYearsWrongFalsely : Prop := countYearsRow.holds Try.pinned (OpenSpec.ofChange countYearsWrong)

/-- 'lombardlaw05.CountBrings': WHATEVER THE INPUT: true; the input reads as it did. -/
def countBringsSpec : ChangeSpec := { name := "countBrings", fn := fun _ => fun
  | [d1, d2] => { results := [.lit (.bool true)], args := [d1, d2] }
  | _ => none }
def countBringsRow : OpenClaim := { program := "ytioicmialbimfaa", sum := "afa8d918ec1f5a2f30174f05fcfdde6ebf39c9fb7422f64ca304b27fbfd5b5da", func := "lombard/lombardlaw05.CountBrings", spec := "countBrings", inPlace := ["math/bits.Sub64", "math/bits.Add64"], unfollowed := true, recurses := true, named := ["math/bits.divideError", "math/bits.overflowError"], apart := false }
def CountBringsSaid : Prop := countBringsRow.holds Try.pinned (OpenSpec.ofChange countBringsSpec)

/-- ITS FALSE NEIGHBOUR: 'it returns false'. Refute it at one input. -/
def countBringsWrong : ChangeSpec := { name := "countBrings", fn := fun _ => fun
  | [d1, d2] => { results := [.lit (.bool false)], args := [d1, d2] }
  | _ => none }
def CountBringsWrongFalsely : Prop := countBringsRow.holds Try.pinned (OpenSpec.ofChange countBringsWrong)

/-- 'lombardlaw05.CountMonths': WHATEVER THE INPUT: true; the input reads as it did. -/
def countMonthsSpec : ChangeSpec := { name := "countMonths", fn := fun _ => fun
  | [d1, d2] => { results := [.lit (.bool true)], args := [d1, d2] }
  | _ => none }
def countMonthsRow : OpenClaim := { program := "ytioicmialbimfaa", sum := "afa8d918ec1f5a2f30174f05fcfdde6ebf39c9fb7422f64ca304b27fbfd5b5da", func := "lombard/lombardlaw05.CountMonths", spec := "countMonths", inPlace := ["math/bits.Sub64", "math/bits.Add64"], unfollowed := true, recurses := true, named := ["math/bits.divideError", "math/bits.overflowError"], apart := false }
def CountMonthsSaid : Prop := countMonthsRow.holds Try.pinned (OpenSpec.ofChange countMonthsSpec)

/-- ITS FALSE NEIGHBOUR: 'it returns false'. Refute it at one input. -/
def countMonthsWrong : ChangeSpec := { name := "countMonths", fn := fun _ => fun
  | [d1, d2] => { results := [.lit (.bool false)], args := [d1, d2] }
  | _ => none }
def CountMonthsWrongFalsely : Prop := countMonthsRow.holds Try.pinned (OpenSpec.ofChange countMonthsWrong)

/- THE SECOND FORM. 'bulk': how many values and letters a reading holds, each counted each time it is reached (what is shared counts as often as it is met; a slice's spare places count too). A statement '..UptoSaid' is the law's where the arguments, and the package variables that the reading takes, are together of bulk at most 1048576: NARROWER than '..Said'. Prove '..Said' where nothing that the law and all that it calls make is longer than what came in: it says more and counts as full. Else prove '..UptoSaid'. A law counts once. -/
mutual
def uptoBulk {H : Type} : DataW H → Nat
  | .lit (.string bytes) => bytes.length + 1
  | .lit _ => 1
  | .nil => 1
  | .ptr d => uptoBulk d + 1
  | .slice elems spare => uptoBulkAll elems + uptoBulkAll spare + 1
  | .agg parts => uptoBulkAll parts + 1
  | .iface _ d => uptoBulk d + 1
  | .map entries => uptoBulkEntries entries + 1
  | .held _ => 1
def uptoBulkAll {H : Type} : List (DataW H) → Nat
  | [] => 0
  | d :: r => uptoBulk d + uptoBulkAll r
def uptoBulkEntries {H : Type} : List (Lit × DataW H) → Nat
  | [] => 0
  | x :: r => uptoBulkEntry x + uptoBulkEntries r
def uptoBulkEntry {H : Type} : Lit × DataW H → Nat
  | (.string bytes, d) => bytes.length + uptoBulk d + 1
  | (_, d) => uptoBulk d + 1
 end
def uptoSmall : (H : Type) → List (DataW H) → Bool := fun _ ds => decide (uptoBulkAll ds ≤ 1048576)
def OpenSpec.upto (s : _root_.Go.ChangeSpec) : _root_.Go.OpenSpec := { _root_.Go.OpenSpec.ofChange s with cond := some uptoSmall }

/-- 'lombardlaw03.RateReckons', WHERE WHAT IT READS IS OF BULK AT MOST 1048576: true; the input reads as it did. -/
def rateReckonsUptoRow : OpenClaim := { program := "ytioicmialbimfaa", sum := "afa8d918ec1f5a2f30174f05fcfdde6ebf39c9fb7422f64ca304b27fbfd5b5da", func := "lombard/lombardlaw03.RateReckons", spec := "rateReckons", inPlace := ["math/bits.Sub64", "math/bits.Add64"], unfollowed := true, recurses := true, named := ["math/bits.divideError", "math/bits.overflowError"], apart := false, narrowed := true }
def RateReckonsUptoSaid : Prop := rateReckonsUptoRow.holds Try.pinned (OpenSpec.upto rateReckonsSpec)

/-- 'lombardlaw03.RateBack', WHERE WHAT IT READS IS OF BULK AT MOST 1048576: true; the input reads as it did. -/
def rateBackUptoRow : OpenClaim := { program := "ytioicmialbimfaa", sum := "afa8d918ec1f5a2f30174f05fcfdde6ebf39c9fb7422f64ca304b27fbfd5b5da", func := "lombard/lombardlaw03.RateBack", spec := "rateBack", inPlace := ["math/bits.Sub64", "math/bits.Add64"], unfollowed := true, recurses := true, named := ["math/bits.divideError", "math/bits.overflowError"], apart := false, narrowed := true }
def RateBackUptoSaid : Prop := rateBackUptoRow.holds Try.pinned (OpenSpec.upto rateBackSpec)

/-- 'lombardlaw03.RateMore', WHERE WHAT IT READS IS OF BULK AT MOST 1048576: true; the input reads as it did. -/
def rateMoreUptoRow : OpenClaim := { program := "ytioicmialbimfaa", sum := "afa8d918ec1f5a2f30174f05fcfdde6ebf39c9fb7422f64ca304b27fbfd5b5da", func := "lombard/lombardlaw03.RateMore", spec := "rateMore", inPlace := ["math/bits.Sub64", "math/bits.Add64"], unfollowed := true, recurses := true, named := ["math/bits.divideError", "math/bits.overflowError"], apart := false, narrowed := true }
def RateMoreUptoSaid : Prop := rateMoreUptoRow.holds Try.pinned (OpenSpec.upto rateMoreSpec)

/-- 'lombardlaw03.RateSteps', WHERE WHAT IT READS IS OF BULK AT MOST 1048576: true; the input reads as it did. -/
def rateStepsUptoRow : OpenClaim := { program := "ytioicmialbimfaa", sum := "afa8d918ec1f5a2f30174f05fcfdde6ebf39c9fb7422f64ca304b27fbfd5b5da", func := "lombard/lombardlaw03.RateSteps", spec := "rateSteps", inPlace := ["math/bits.Sub64", "math/bits.Add64"], unfollowed := true, recurses := true, named := ["math/bits.divideError", "math/bits.overflowError"], apart := false, narrowed := true }
def RateStepsUptoSaid : Prop := rateStepsUptoRow.holds Try.pinned (OpenSpec.upto rateStepsSpec)

/-- 'lombardlaw03.RatePowers', WHERE WHAT IT READS IS OF BULK AT MOST 1048576: true; the input reads as it did. -/
def ratePowersUptoRow : OpenClaim := { program := "ytioicmialbimfaa", sum := "afa8d918ec1f5a2f30174f05fcfdde6ebf39c9fb7422f64ca304b27fbfd5b5da", func := "lombard/lombardlaw03.RatePowers", spec := "ratePowers", inPlace := ["math/bits.Sub64", "math/bits.Add64"], unfollowed := true, recurses := true, named := ["math/bits.divideError", "math/bits.overflowError"], apart := false, narrowed := true }
def RatePowersUptoSaid : Prop := ratePowersUptoRow.holds Try.pinned (OpenSpec.upto ratePowersSpec)

/-- 'lombardlaw03.RateParts', WHERE WHAT IT READS IS OF BULK AT MOST 1048576: true; the input reads as it did. -/
def ratePartsUptoRow : OpenClaim := { program := "ytioicmialbimfaa", sum := "afa8d918ec1f5a2f30174f05fcfdde6ebf39c9fb7422f64ca304b27fbfd5b5da", func := "lombard/lombardlaw03.RateParts", spec := "rateParts", inPlace := ["math/bits.Sub64", "math/bits.Add64"], unfollowed := true, recurses := true, named := ["math/bits.divideError", "math/bits.overflowError"], apart := false, narrowed := true }
def RatePartsUptoSaid : Prop := ratePartsUptoRow.holds Try.pinned (OpenSpec.upto ratePartsSpec)

/-- 'lombardlaw05.CountAccrues', WHERE WHAT IT READS IS OF BULK AT MOST 1048576: true; the input reads as it did. -/
def countAccruesUptoRow : OpenClaim := { program := "ytioicmialbimfaa", sum := "afa8d918ec1f5a2f30174f05fcfdde6ebf39c9fb7422f64ca304b27fbfd5b5da", func := "lombard/lombardlaw05.CountAccrues", spec := "countAccrues", inPlace := ["math/bits.Sub64", "math/bits.Add64"], unfollowed := true, recurses := true, named := ["math/bits.divideError", "math/bits.overflowError"], apart := false, narrowed := true }
def CountAccruesUptoSaid : Prop := countAccruesUptoRow.holds Try.pinned (OpenSpec.upto countAccruesSpec)

/-- 'lombardlaw05.CountTurns', WHERE WHAT IT READS IS OF BULK AT MOST 1048576: true; the input reads as it did. -/
def countTurnsUptoRow : OpenClaim := { program := "ytioicmialbimfaa", sum := "afa8d918ec1f5a2f30174f05fcfdde6ebf39c9fb7422f64ca304b27fbfd5b5da", func := "lombard/lombardlaw05.CountTurns", spec := "countTurns", inPlace := ["math/bits.Sub64", "math/bits.Add64"], unfollowed := true, recurses := true, named := ["math/bits.divideError", "math/bits.overflowError"], apart := false, narrowed := true }
def CountTurnsUptoSaid : Prop := countTurnsUptoRow.holds Try.pinned (OpenSpec.upto countTurnsSpec)

/-- 'lombardlaw05.CountYears', WHERE WHAT IT READS IS OF BULK AT MOST 1048576: true; the input reads as it did. -/
def countYearsUptoRow : OpenClaim := { program := "ytioicmialbimfaa", sum := "afa8d918ec1f5a2f30174f05fcfdde6ebf39c9fb7422f64ca304b27fbfd5b5da", func := "lombard/lombardlaw05.CountYears", spec := "countYears", inPlace := ["math/bits.Sub64", "math/bits.Add64"], unfollowed := true, recurses := true, named := ["math/bits.divideError", "math/bits.overflowError"], apart := false, narrowed := true }
def CountYearsUptoSaid : Prop := countYearsUptoRow.holds Try.pinned (OpenSpec.upto countYearsSpec)

/-- 'lombardlaw05.CountBrings', WHERE WHAT IT READS IS OF BULK AT MOST 1048576: true; the input reads as it did. -/
def countBringsUptoRow : OpenClaim := { program := "ytioicmialbimfaa", sum := "afa8d918ec1f5a2f30174f05fcfdde6ebf39c9fb7422f64ca304b27fbfd5b5da", func := "lombard/lombardlaw05.CountBrings", spec := "countBrings", inPlace := ["math/bits.Sub64", "math/bits.Add64"], unfollowed := true, recurses := true, named := ["math/bits.divideError", "math/bits.overflowError"], apart := false, narrowed := true }
def CountBringsUptoSaid : Prop := countBringsUptoRow.holds Try.pinned (OpenSpec.upto countBringsSpec)

/-- 'lombardlaw05.CountMonths', WHERE WHAT IT READS IS OF BULK AT MOST 1048576: true; the input reads as it did. -/
def countMonthsUptoRow : OpenClaim := { program := "ytioicmialbimfaa", sum := "afa8d918ec1f5a2f30174f05fcfdde6ebf39c9fb7422f64ca304b27fbfd5b5da", func := "lombard/lombardlaw05.CountMonths", spec := "countMonths", inPlace := ["math/bits.Sub64", "math/bits.Add64"], unfollowed := true, recurses := true, named := ["math/bits.divideError", "math/bits.overflowError"], apart := false, narrowed := true }
def CountMonthsUptoSaid : Prop := countMonthsUptoRow.holds Try.pinned (OpenSpec.upto countMonthsSpec)

end Rows
end Go.Proofs.Ytioicmialbimfaa
