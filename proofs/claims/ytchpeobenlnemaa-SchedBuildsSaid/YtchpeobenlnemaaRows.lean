/-
  No cell of these rows narrows 'for every input' (looked for: loops, veiled, ifaces, maps, wideKeys, modest, calm, conditions, laid).
  DERIVED. THE GIVEN ROWS OF THIS SEAT. 6 by the template 'for every input the law returns true; each argument reads behind the call as it read before'; 0 by the template 'total and deterministic' (their statements: YtchpeobenlnemaaTotals.lean).
  GIVEN WITH THE SEED: the statements are not yours to turn. If you find one false, say at which input.
  Laid BY PROGRAM, IN A SANDBOX (cutbox-rows.mjs): the forced cells as the released guide's own fill.sh prints them over the translation f65af1578dae0aa2… (all of the seat's roots in one cut). By AI agents, Wed Nov 11 2026. No macro, syntax, notation, axiom, sorry.
-/
import Derived.Test.YtchpeobenlnemaaChecked
import GoSem.Claim
import GoSem.ClaimJoined
import GoSem.ClaimMapViews
import Derived.JoinedTies
import Derived.KernelRfl
namespace Go.Proofs.Ytchpeobenlnemaa
/- THE CELL 'sum', in the pinned program and in every row, IS THE sha256 OF THE DUMP (.gsa) THAT YtchpeobenlnemaaProg.lean LOADS. Nothing in Lean hashes anything: it is a label: what it is worth is what the hold of that sum in a sandbox is worth. -/
noncomputable def Try.pinned : Pinned := { name := "ytchpeobenlnemaa", sum := "f65af1578dae0aa2476e386e15f4aa1bd5d57a968f623be98dd61095070b2e2d", checked := Try.checked }
namespace Rows
def none {H : Type} : Left H := { results := [], args := [] }

/-- 'lombardlaw08.SchedBuilds': WHATEVER THE INPUT: true; the input reads as it did. -/
def schedBuildsSpec : ChangeSpec := { name := "schedBuilds", fn := fun _ => fun
  | [d] => { results := [.lit (.bool true)], args := [d] }
  | _ => none }
def schedBuildsRow : OpenClaim := { program := "ytchpeobenlnemaa", sum := "f65af1578dae0aa2476e386e15f4aa1bd5d57a968f623be98dd61095070b2e2d", func := "lombard/lombardlaw08.SchedBuilds", spec := "schedBuilds", inPlace := ["math/bits.Sub64", "math/bits.Add64"], unfollowed := true, recurses := true, named := ["math/bits.divideError", "math/bits.overflowError"], apart := false }
def SchedBuildsSaid : Prop := schedBuildsRow.holds Try.pinned (OpenSpec.ofChange schedBuildsSpec)

/-- ITS FALSE NEIGHBOUR: 'it returns false'. Refute it at one input. -/
def schedBuildsWrong : ChangeSpec := { name := "schedBuilds", fn := fun _ => fun
  | [d] => { results := [.lit (.bool false)], args := [d] }
  | _ => none }
def SchedBuildsWrongFalsely : Prop := schedBuildsRow.holds Try.pinned (OpenSpec.ofChange schedBuildsWrong)

/-- 'lombardlaw08.SchedLevels': WHATEVER THE INPUT: true; the input reads as it did. -/
def schedLevelsSpec : ChangeSpec := { name := "schedLevels", fn := fun _ => fun
  | [d1, d2, d3] => { results := [.lit (.bool true)], args := [d1, d2, d3] }
  | _ => none }
def schedLevelsRow : OpenClaim := { program := "ytchpeobenlnemaa", sum := "f65af1578dae0aa2476e386e15f4aa1bd5d57a968f623be98dd61095070b2e2d", func := "lombard/lombardlaw08.SchedLevels", spec := "schedLevels", inPlace := ["math/bits.Sub64", "math/bits.Add64"], unfollowed := true, recurses := true, named := ["math/bits.divideError", "math/bits.overflowError"], apart := false }
def SchedLevelsSaid : Prop := schedLevelsRow.holds Try.pinned (OpenSpec.ofChange schedLevelsSpec)

/-- ITS FALSE NEIGHBOUR: 'it returns false'. Refute it at one input. -/
def schedLevelsWrong : ChangeSpec := { name := "schedLevels", fn := fun _ => fun
  | [d1, d2, d3] => { results := [.lit (.bool false)], args := [d1, d2, d3] }
  | _ => none }
def SchedLevelsWrongFalsely : Prop := schedLevelsRow.holds Try.pinned (OpenSpec.ofChange schedLevelsWrong)

/-- 'lombardlaw08.SchedWhole': WHATEVER THE INPUT: true; the input reads as it did. -/
def schedWholeSpec : ChangeSpec := { name := "schedWhole", fn := fun _ => fun
  | [d] => { results := [.lit (.bool true)], args := [d] }
  | _ => none }
def schedWholeRow : OpenClaim := { program := "ytchpeobenlnemaa", sum := "f65af1578dae0aa2476e386e15f4aa1bd5d57a968f623be98dd61095070b2e2d", func := "lombard/lombardlaw08.SchedWhole", spec := "schedWhole", inPlace := ["math/bits.Sub64", "math/bits.Add64"], unfollowed := true, recurses := true, named := ["math/bits.divideError", "math/bits.overflowError"], apart := false }
def SchedWholeSaid : Prop := schedWholeRow.holds Try.pinned (OpenSpec.ofChange schedWholeSpec)

/-- ITS FALSE NEIGHBOUR: 'it returns false'. Refute it at one input. -/
def schedWholeWrong : ChangeSpec := { name := "schedWhole", fn := fun _ => fun
  | [d] => { results := [.lit (.bool false)], args := [d] }
  | _ => none }
def SchedWholeWrongFalsely : Prop := schedWholeRow.holds Try.pinned (OpenSpec.ofChange schedWholeWrong)

/-- 'lombardlaw08.SchedKinds': WHATEVER THE INPUT: true; the input reads as it did. -/
def schedKindsSpec : ChangeSpec := { name := "schedKinds", fn := fun _ => fun
  | [d] => { results := [.lit (.bool true)], args := [d] }
  | _ => none }
def schedKindsRow : OpenClaim := { program := "ytchpeobenlnemaa", sum := "f65af1578dae0aa2476e386e15f4aa1bd5d57a968f623be98dd61095070b2e2d", func := "lombard/lombardlaw08.SchedKinds", spec := "schedKinds", inPlace := ["math/bits.Sub64", "math/bits.Add64"], unfollowed := true, recurses := true, named := ["math/bits.divideError", "math/bits.overflowError"], apart := false }
def SchedKindsSaid : Prop := schedKindsRow.holds Try.pinned (OpenSpec.ofChange schedKindsSpec)

/-- ITS FALSE NEIGHBOUR: 'it returns false'. Refute it at one input. -/
def schedKindsWrong : ChangeSpec := { name := "schedKinds", fn := fun _ => fun
  | [d] => { results := [.lit (.bool false)], args := [d] }
  | _ => none }
def SchedKindsWrongFalsely : Prop := schedKindsRow.holds Try.pinned (OpenSpec.ofChange schedKindsWrong)

/-- 'lombardlaw08.SchedLeast': WHATEVER THE INPUT: true; the input reads as it did. -/
def schedLeastSpec : ChangeSpec := { name := "schedLeast", fn := fun _ => fun
  | [d1, d2, d3] => { results := [.lit (.bool true)], args := [d1, d2, d3] }
  | _ => none }
def schedLeastRow : OpenClaim := { program := "ytchpeobenlnemaa", sum := "f65af1578dae0aa2476e386e15f4aa1bd5d57a968f623be98dd61095070b2e2d", func := "lombard/lombardlaw08.SchedLeast", spec := "schedLeast", inPlace := ["math/bits.Sub64", "math/bits.Add64"], unfollowed := true, recurses := true, named := ["math/bits.divideError", "math/bits.overflowError"], apart := false }
def SchedLeastSaid : Prop := schedLeastRow.holds Try.pinned (OpenSpec.ofChange schedLeastSpec)

/-- ITS FALSE NEIGHBOUR: 'it returns false'. Refute it at one input. -/
def schedLeastWrong : ChangeSpec := { name := "schedLeast", fn := fun _ => fun
  | [d1, d2, d3] => { results := [.lit (.bool false)], args := [d1, d2, d3] }
  | _ => none }
def SchedLeastWrongFalsely : Prop := schedLeastRow.holds Try.pinned (OpenSpec.ofChange schedLeastWrong)

/-- 'lombardlaw08.SchedRates': WHATEVER THE INPUT: true; the input reads as it did. -/
def schedRatesSpec : ChangeSpec := { name := "schedRates", fn := fun _ => fun
  | [d1, d2] => { results := [.lit (.bool true)], args := [d1, d2] }
  | _ => none }
def schedRatesRow : OpenClaim := { program := "ytchpeobenlnemaa", sum := "f65af1578dae0aa2476e386e15f4aa1bd5d57a968f623be98dd61095070b2e2d", func := "lombard/lombardlaw08.SchedRates", spec := "schedRates", inPlace := ["math/bits.Sub64", "math/bits.Add64"], unfollowed := true, recurses := true, named := ["math/bits.divideError", "math/bits.overflowError"], apart := false }
def SchedRatesSaid : Prop := schedRatesRow.holds Try.pinned (OpenSpec.ofChange schedRatesSpec)

/-- ITS FALSE NEIGHBOUR: 'it returns false'. Refute it at one input. -/
def schedRatesWrong : ChangeSpec := { name := "schedRates", fn := fun _ => fun
  | [d1, d2] => { results := [.lit (.bool false)], args := [d1, d2] }
  | _ => none }
def SchedRatesWrongFalsely : Prop := schedRatesRow.holds Try.pinned (OpenSpec.ofChange schedRatesWrong)

/- THE SECOND FORM. 'bulk': how many values and letters a reading holds, each counted each time it is reached (what is shared counts as often as it is met; a slice's spare places count too). A statement '..UptoSaid' is the law's where the arguments, and the package variables that the reading takes, are together of bulk at most 1048576: NARROWER than '..Said'. Prove '..Said' where nothing that the law and all that it calls make is longer than what came in: it says more and counts as full. Else prove '..UptoSaid'. A law counts once. -/
mutual
def uptoBulk {H : Type} : DataW H → Nat
  | .lit (.string bytes) => bytes.length + 1
  | .lit _ => 1
  | .nil => 1
  | .ptr d => uptoBulk d + 1
  | .slice elems spare => uptoBulkAll elems + uptoBulkAll spare + 1
  | .agg parts => uptoBulkAll parts + 1
  | .iface _ d => uptoBulk d + 1
  | .map entries => uptoBulkEntries entries + 1
  | .held _ => 1
def uptoBulkAll {H : Type} : List (DataW H) → Nat
  | [] => 0
  | d :: r => uptoBulk d + uptoBulkAll r
def uptoBulkEntries {H : Type} : List (Lit × DataW H) → Nat
  | [] => 0
  | x :: r => uptoBulkEntry x + uptoBulkEntries r
def uptoBulkEntry {H : Type} : Lit × DataW H → Nat
  | (.string bytes, d) => bytes.length + uptoBulk d + 1
  | (_, d) => uptoBulk d + 1
 end
def uptoSmall : (H : Type) → List (DataW H) → Bool := fun _ ds => decide (uptoBulkAll ds ≤ 1048576)
def OpenSpec.upto (s : _root_.Go.ChangeSpec) : _root_.Go.OpenSpec := { _root_.Go.OpenSpec.ofChange s with cond := some uptoSmall }

/-- 'lombardlaw08.SchedBuilds', WHERE WHAT IT READS IS OF BULK AT MOST 1048576: true; the input reads as it did. -/
def schedBuildsUptoRow : OpenClaim := { program := "ytchpeobenlnemaa", sum := "f65af1578dae0aa2476e386e15f4aa1bd5d57a968f623be98dd61095070b2e2d", func := "lombard/lombardlaw08.SchedBuilds", spec := "schedBuilds", inPlace := ["math/bits.Sub64", "math/bits.Add64"], unfollowed := true, recurses := true, named := ["math/bits.divideError", "math/bits.overflowError"], apart := false, narrowed := true }
def SchedBuildsUptoSaid : Prop := schedBuildsUptoRow.holds Try.pinned (OpenSpec.upto schedBuildsSpec)

/-- 'lombardlaw08.SchedLevels', WHERE WHAT IT READS IS OF BULK AT MOST 1048576: true; the input reads as it did. -/
def schedLevelsUptoRow : OpenClaim := { program := "ytchpeobenlnemaa", sum := "f65af1578dae0aa2476e386e15f4aa1bd5d57a968f623be98dd61095070b2e2d", func := "lombard/lombardlaw08.SchedLevels", spec := "schedLevels", inPlace := ["math/bits.Sub64", "math/bits.Add64"], unfollowed := true, recurses := true, named := ["math/bits.divideError", "math/bits.overflowError"], apart := false, narrowed := true }
def SchedLevelsUptoSaid : Prop := schedLevelsUptoRow.holds Try.pinned (OpenSpec.upto schedLevelsSpec)

/-- 'lombardlaw08.SchedWhole', WHERE WHAT IT READS IS OF BULK AT MOST 1048576: true; the input reads as it did. -/
def schedWholeUptoRow : OpenClaim := { program := "ytchpeobenlnemaa", sum := "f65af1578dae0aa2476e386e15f4aa1bd5d57a968f623be98dd61095070b2e2d", func := "lombard/lombardlaw08.SchedWhole", spec := "schedWhole", inPlace := ["math/bits.Sub64", "math/bits.Add64"], unfollowed := true, recurses := true, named := ["math/bits.divideError", "math/bits.overflowError"], apart := false, narrowed := true }
def SchedWholeUptoSaid : Prop := schedWholeUptoRow.holds Try.pinned (OpenSpec.upto schedWholeSpec)

/-- 'lombardlaw08.SchedKinds', WHERE WHAT IT READS IS OF BULK AT MOST 1048576: true; the input reads as it did. -/
def schedKindsUptoRow : OpenClaim := { program := "ytchpeobenlnemaa", sum := "f65af1578dae0aa2476e386e15f4aa1bd5d57a968f623be98dd61095070b2e2d", func := "lombard/lombardlaw08.SchedKinds", spec := "schedKinds", inPlace := ["math/bits.Sub64", "math/bits.Add64"], unfollowed := true, recurses := true, named := ["math/bits.divideError", "math/bits.overflowError"], apart := false, narrowed := true }
def SchedKindsUptoSaid : Prop := schedKindsUptoRow.holds Try.pinned (OpenSpec.upto schedKindsSpec)

/-- 'lombardlaw08.SchedLeast', WHERE WHAT IT READS IS OF BULK AT MOST 1048576: true; the input reads as it did. -/
def schedLeastUptoRow : OpenClaim := { program := "ytchpeobenlnemaa", sum := "f65af1578dae0aa2476e386e15f4aa1bd5d57a968f623be98dd61095070b2e2d", func := "lombard/lombardlaw08.SchedLeast", spec := "schedLeast", inPlace := ["math/bits.Sub64", "math/bits.Add64"], unfollowed := true, recurses := true, named := ["math/bits.divideError", "math/bits.overflowError"], apart := false, narrowed := true }
def SchedLeastUptoSaid : Prop := schedLeastUptoRow.holds Try.pinned (OpenSpec.upto schedLeastSpec)

/-- 'lombardlaw08.SchedRates', WHERE WHAT IT READS IS OF BULK AT MOST 1048576: true; the input reads as it did. -/
def schedRatesUptoRow : OpenClaim := { program := "ytchpeobenlnemaa", sum := "f65af1578dae0aa2476e386e15f4aa1bd5d57a968f623be98dd61095070b2e2d", func := "lombard/lombardlaw08.SchedRates", spec := "schedRates", inPlace := ["math/bits.Sub64", "math/bits.Add64"], unfollowed := true, recurses := true, named := ["math/bits.divideError", "math/bits.overflowError"], apart := false, narrowed := true }
def SchedRatesUptoSaid : Prop := schedRatesUptoRow.holds Try.pinned (OpenSpec.upto schedRatesSpec)

end Rows
end Go.Proofs.Ytchpeobenlnemaa
