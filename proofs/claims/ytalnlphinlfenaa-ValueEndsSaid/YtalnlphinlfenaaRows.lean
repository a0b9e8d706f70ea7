/-
  No cell of these rows narrows 'for every input' (looked for: loops, veiled, ifaces, maps, wideKeys, modest, calm, conditions, laid).
  DERIVED. THE GIVEN ROWS OF THIS SEAT. 8 by the template 'for every input the law returns true; each argument reads behind the call as it read before'; 0 by the template 'total and deterministic' (their statements: YtalnlphinlfenaaTotals.lean).
  GIVEN WITH THE SEED: the statements are not yours to turn. If you find one false, say at which input.
  Laid BY PROGRAM, IN A SANDBOX (cutbox-rows.mjs): the forced cells as the released guide's own fill.sh prints them over the translation a7be1efff7384ba4… (all of the seat's roots in one cut). By AI agents, Wed Nov 11 2026. No macro, syntax, notation, axiom, sorry.
-/
import Derived.Test.YtalnlphinlfenaaChecked
import GoSem.Claim
import GoSem.ClaimJoined
import GoSem.ClaimMapViews
import Derived.JoinedTies
import Derived.KernelRfl
namespace Go.Proofs.Ytalnlphinlfenaa
/- THE CELL 'sum', in the pinned program and in every row, IS THE sha256 OF THE DUMP (.gsa) THAT YtalnlphinlfenaaProg.lean LOADS. Nothing in Lean hashes anything: it is a label: what it is worth is what the hold of that sum in a sandbox is worth. -/
noncomputable def Try.pinned : Pinned := { name := "ytalnlphinlfenaa", sum := "a7be1efff7384ba469a8875d3851c7c385dd1441a48896de7b884965fafc8b40", checked := Try.checked }
namespace Rows
def none {H : Type} : Left H := { results := [], args := [] }

/-- 'lombardlaw11.TableRolls': WHATEVER THE INPUT: true; the input reads as it did. -/
def tableRollsSpec : ChangeSpec := { name := "tableRolls", fn := fun _ => fun
  | [d1, d2, d3] => { results := [.lit (.bool true)], args := [d1, d2, d3] }
  | _ => none }
def tableRollsRow : OpenClaim := { program := "ytalnlphinlfenaa", sum := "a7be1efff7384ba469a8875d3851c7c385dd1441a48896de7b884965fafc8b40", func := "lombard/lombardlaw11.TableRolls", spec := "tableRolls", inPlace := ["math/bits.Sub64", "math/bits.Add64"], unfollowed := true, recurses := true, named := ["math/bits.divideError", "math/bits.overflowError"], apart := false }
def TableRollsSaid : Prop := tableRollsRow.holds Try.pinned (OpenSpec.ofChange tableRollsSpec)

/-- ITS FALSE NEIGHBOUR: 'it returns false'. Refute it at one input. -/
def tableRollsWrong : ChangeSpec := { name := "tableRolls", fn := fun _ => fun
  | [d1, d2, d3] => { results := [.lit (.bool false)], args := [d1, d2, d3] }
  | _ => none }
def TableRollsWrongFalsely : Prop := tableRollsRow.holds Try.pinned (OpenSpec.ofChange tableRollsWrong)

/-- 'lombardlaw11.TableZero': WHATEVER THE INPUT: true; the input reads as it did. -/
def tableZeroSpec : ChangeSpec := { name := "tableZero", fn := fun _ => fun
  | [d] => { results := [.lit (.bool true)], args := [d] }
  | _ => none }
def tableZeroRow : OpenClaim := { program := "ytalnlphinlfenaa", sum := "a7be1efff7384ba469a8875d3851c7c385dd1441a48896de7b884965fafc8b40", func := "lombard/lombardlaw11.TableZero", spec := "tableZero", inPlace := ["math/bits.Sub64", "math/bits.Add64"], unfollowed := true, recurses := true, named := ["math/bits.divideError", "math/bits.overflowError"], apart := false }
def TableZeroSaid : Prop := tableZeroRow.holds Try.pinned (OpenSpec.ofChange tableZeroSpec)

/-- ITS FALSE NEIGHBOUR: 'it returns false'. Refute it at one input. -/
def tableZeroWrong : ChangeSpec := { name := "tableZero", fn := fun _ => fun
  | [d] => { results := [.lit (.bool false)], args := [d] }
  | _ => none }
def TableZeroWrongFalsely : Prop := tableZeroRow.holds Try.pinned (OpenSpec.ofChange tableZeroWrong)

/-- 'lombardlaw09.ValueLater': WHATEVER THE INPUT: true; the input reads as it did. -/
def valueLaterSpec : ChangeSpec := { name := "valueLater", fn := fun _ => fun
  | [d1, d2, d3] => { results := [.lit (.bool true)], args := [d1, d2, d3] }
  | _ => none }
def valueLaterRow : OpenClaim := { program := "ytalnlphinlfenaa", sum := "a7be1efff7384ba469a8875d3851c7c385dd1441a48896de7b884965fafc8b40", func := "lombard/lombardlaw09.ValueLater", spec := "valueLater", inPlace := ["math/bits.Sub64", "math/bits.Add64"], unfollowed := true, recurses := true, named := ["math/bits.divideError", "math/bits.overflowError"], apart := false }
def ValueLaterSaid : Prop := valueLaterRow.holds Try.pinned (OpenSpec.ofChange valueLaterSpec)

/-- ITS FALSE NEIGHBOUR: 'it returns false'. Refute it at one input. -/
def valueLaterWrong : ChangeSpec := { name := "valueLater", fn := fun _ => fun
  | [d1, d2, d3] => { results := [.lit (.bool false)], args := [d1, d2, d3] }
  | _ => none }
def ValueLaterWrongFalsely : Prop := valueLaterRow.holds Try.pinned (OpenSpec.ofChange valueLaterWrong)

/-- 'lombardlaw09.ValueAdds': WHATEVER THE INPUT: true; the input reads as it did. -/
def valueAddsSpec : ChangeSpec := { name := "valueAdds", fn := fun _ => fun
  | [d1, d2, d3] => { results := [.lit (.bool true)], args := [d1, d2, d3] }
  | _ => none }
def valueAddsRow : OpenClaim := { program := "ytalnlphinlfenaa", sum := "a7be1efff7384ba469a8875d3851c7c385dd1441a48896de7b884965fafc8b40", func := "lombard/lombardlaw09.ValueAdds", spec := "valueAdds", inPlace := ["math/bits.Sub64", "math/bits.Add64"], unfollowed := true, recurses := true, named := ["math/bits.divideError", "math/bits.overflowError"], apart := false }
def ValueAddsSaid : Prop := valueAddsRow.holds Try.pinned (OpenSpec.ofChange valueAddsSpec)

/-- ITS FALSE NEIGHBOUR: 'it returns false'. Refute it at one input. -/
def valueAddsWrong : ChangeSpec := { name := "valueAdds", fn := fun _ => fun
  | [d1, d2, d3] => { results := [.lit (.bool false)], args := [d1, d2, d3] }
  | _ => none }
def ValueAddsWrongFalsely : Prop := valueAddsRow.holds Try.pinned (OpenSpec.ofChange valueAddsWrong)

/-- 'lombardlaw09.ValueEnds': WHATEVER THE INPUT: true; the input reads as it did. -/
def valueEndsSpec : ChangeSpec := { name := "valueEnds", fn := fun _ => fun
  | [d] => { results := [.lit (.bool true)], args := [d] }
  | _ => none }
def valueEndsRow : OpenClaim := { program := "ytalnlphinlfenaa", sum := "a7be1efff7384ba469a8875d3851c7c385dd1441a48896de7b884965fafc8b40", func := "lombard/lombardlaw09.ValueEnds", spec := "valueEnds", inPlace := ["math/bits.Sub64", "math/bits.Add64"], unfollowed := true, recurses := true, named := ["math/bits.divideError", "math/bits.overflowError"], apart := false }
def ValueEndsSaid : Prop := valueEndsRow.holds Try.pinned (OpenSpec.ofChange valueEndsSpec)

/-- ITS FALSE NEIGHBOUR: 'it returns false'. Refute it at one input. -/
def valueEndsWrong : ChangeSpec := { name := "valueEnds", fn := fun _ => fun
  | [d] => { results := [.lit (.bool false)], args := [d] }
  | _ => none }
def ValueEndsWrongFalsely : Prop := valueEndsRow.holds Try.pinned (OpenSpec.ofChange valueEndsWrong)

/-- 'lombardlaw09.ValueFalls': WHATEVER THE INPUT: true; the input reads as it did. -/
def valueFallsSpec : ChangeSpec := { name := "valueFalls", fn := fun _ => fun
  | [d1, d2, d3] => { results := [.lit (.bool true)], args := [d1, d2, d3] }
  | _ => none }
def valueFallsRow : OpenClaim := { program := "ytalnlphinlfenaa", sum := "a7be1efff7384ba469a8875d3851c7c385dd1441a48896de7b884965fafc8b40", func := "lombard/lombardlaw09.ValueFalls", spec := "valueFalls", inPlace := ["math/bits.Sub64", "math/bits.Add64"], unfollowed := true, recurses := true, named := ["math/bits.divideError", "math/bits.overflowError"], apart := false }
def ValueFallsSaid : Prop := valueFallsRow.holds Try.pinned (OpenSpec.ofChange valueFallsSpec)

/-- ITS FALSE NEIGHBOUR: 'it returns false'. Refute it at one input. -/
def valueFallsWrong : ChangeSpec := { name := "valueFalls", fn := fun _ => fun
  | [d1, d2, d3] => { results := [.lit (.bool false)], args := [d1, d2, d3] }
  | _ => none }
def ValueFallsWrongFalsely : Prop := valueFallsRow.holds Try.pinned (OpenSpec.ofChange valueFallsWrong)

/-- 'lombardlaw11.TableSums': WHATEVER THE INPUT: true; the input reads as it did. -/
def tableSumsSpec : ChangeSpec := { name := "tableSums", fn := fun _ => fun
  | [d1, d2] => { results := [.lit (.bool true)], args := [d1, d2] }
  | _ => none }
def tableSumsRow : OpenClaim := { program := "ytalnlphinlfenaa", sum := "a7be1efff7384ba469a8875d3851c7c385dd1441a48896de7b884965fafc8b40", func := "lombard/lombardlaw11.TableSums", spec := "tableSums", inPlace := ["math/bits.Sub64", "math/bits.Add64"], unfollowed := true, recurses := true, named := ["math/bits.divideError", "math/bits.overflowError"], apart := false }
def TableSumsSaid : Prop := tableSumsRow.holds Try.pinned (OpenSpec.ofChange tableSumsSpec)

/-- ITS FALSE NEIGHBOUR: 'it returns false'. Refute it at one input. -/
def tableSumsWrong : ChangeSpec := { name := "tableSums", fn := fun _ => fun
  | [d1, d2] => { results := [.lit (.bool false)], args := [d1, d2] }
  | _ => none }
def TableSumsWrongFalsely : Prop := tableSumsRow.holds Try.pinned (OpenSpec.ofChange tableSumsWrong)

/-- 'lombardlaw11.TableEnds': WHATEVER THE INPUT: true; the input reads as it did. -/
def tableEndsSpec : ChangeSpec := { name := "tableEnds", fn := fun _ => fun
  | [d1, d2, d3] => { results := [.lit (.bool true)], args := [d1, d2, d3] }
  | _ => none }
def tableEndsRow : OpenClaim := { program := "ytalnlphinlfenaa", sum := "a7be1efff7384ba469a8875d3851c7c385dd1441a48896de7b884965fafc8b40", func := "lombard/lombardlaw11.TableEnds", spec := "tableEnds", inPlace := ["math/bits.Sub64", "math/bits.Add64"], unfollowed := true, recurses := true, named := ["math/bits.divideError", "math/bits.overflowError"], apart := false }
def TableEndsSaid : Prop := tableEndsRow.holds Try.pinned (OpenSpec.ofChange tableEndsSpec)

/-- ITS FALSE NEIGHBOUR: 'it returns false'. Refute it at one input. -/
def tableEndsWrong : ChangeSpec := { name := "tableEnds", fn := fun _ => fun
  | [d1, d2, d3] => { results := [.lit (.bool false)], args := [d1, d2, d3] }
  | _ => none }
def TableEndsWrongFalsely : Prop := tableEndsRow.holds Try.pinned (OpenSpec.ofChange tableEndsWrong)

/- THE SECOND FORM. 'bulk': how many values and letters a reading holds, each counted each time it is reached (what is shared counts as often as it is met; a slice's spare places count too). A statement '..UptoSaid' is the law's where the arguments, and the package variables that the reading takes, are together of bulk at most 1048576: NARROWER than '..Said'. Prove '..Said' where nothing that the law and all that it calls make is longer than what came in: it says more and counts as full. Else prove '..UptoSaid'. A law counts once. -/
mutual
def uptoBulk {H : Type} : DataW H → Nat
  | .lit (.string bytes) => bytes.length + 1
  | .lit _ => 1
  | .nil => 1
  | .ptr d => uptoBulk d + 1
  | .slice elems spare => uptoBulkAll elems + uptoBulkAll spare + 1
  | .agg parts => uptoBulkAll parts + 1
  | .iface _ d => uptoBulk d + 1
  | .map entries => uptoBulkEntries entries + 1
  | .held _ => 1
def uptoBulkAll {H : Type} : List (DataW H) → Nat
  | [] => 0
  | d :: r => uptoBulk d + uptoBulkAll r
def uptoBulkEntries {H : Type} : List (Lit × DataW H) → Nat
  | [] => 0
  | x :: r => uptoBulkEntry x + uptoBulkEntries r
def uptoBulkEntry {H : Type} : Lit × DataW H → Nat
  | (.string bytes, d) => bytes.length + uptoBulk d + 1
  | (_, d) => uptoBulk d + 1
 end
def uptoSmall : (H : Type) → List (DataW H) → Bool := fun _ ds => decide (uptoBulkAll ds ≤ 1048576)
def OpenSpec.upto (s : _root_.Go.ChangeSpec) : _root_.Go.OpenSpec := { _root_.Go.OpenSpec.ofChange s with cond := some uptoSmall }

/-- 'lombardlaw11.TableRolls', WHERE WHAT IT READS IS OF BULK AT MOST 1048576: true; the input reads as it did. -/
def tableRollsUptoRow : OpenClaim := { program := "ytalnlphinlfenaa", sum := "a7be1efff7384ba469a8875d3851c7c385dd1441a48896de7b884965fafc8b40", func := "lombard/lombardlaw11.TableRolls", spec := "tableRolls", inPlace := ["math/bits.Sub64", "math/bits.Add64"], unfollowed := true, recurses := true, named := ["math/bits.divideError", "math/bits.overflowError"], apart := false, narrowed := true }
def TableRollsUptoSaid : Prop := tableRollsUptoRow.holds Try.pinned (OpenSpec.upto tableRollsSpec)

/-- 'lombardlaw11.TableZero', WHERE WHAT IT READS IS OF BULK AT MOST 1048576: true; the input reads as it did. -/
def tableZeroUptoRow : OpenClaim := { program := "ytalnlphinlfenaa", sum := "a7be1efff7384ba469a8875d3851c7c385dd1441a48896de7b884965fafc8b40", func := "lombard/lombardlaw11.TableZero", spec := "tableZero", inPlace := ["math/bits.Sub64", "math/bits.Add64"], unfollowed := true, recurses := true, named := ["math/bits.divideError", "math/bits.overflowError"], apart := false, narrowed := true }
def TableZeroUptoSaid : Prop := tableZeroUptoRow.holds Try.pinned (OpenSpec.upto tableZeroSpec)

/-- 'lombardlaw09.ValueLater', WHERE WHAT IT READS IS OF BULK AT MOST 1048576: true; the input reads as it did. -/
def valueLaterUptoRow : OpenClaim := { program := "ytalnlphinlfenaa", sum := "a7be1efff7384ba469a8875d3851c7c385dd1441a48896de7b884965fafc8b40", func := "lombard/lombardlaw09.ValueLater", spec := "valueLater", inPlace := ["math/bits.Sub64", "math/bits.Add64"], unfollowed := true, recurses := true, named := ["math/bits.divideError", "math/bits.overflowError"], apart := false, narrowed := true }
def ValueLaterUptoSaid : Prop := valueLaterUptoRow.holds Try.pinned (OpenSpec.upto valueLaterSpec)

/-- 'lombardlaw09.ValueAdds', WHERE WHAT IT READS IS OF BULK AT MOST 1048576: true; the input reads as it did. -/
def valueAddsUptoRow : OpenClaim := { program := "ytalnlphinlfenaa", sum := "a7be1efff7384ba469a8875d3851c7c385dd1441a48896de7b884965fafc8b40", func := "lombard/lombardlaw09.ValueAdds", spec := "valueAdds", inPlace := ["math/bits.Sub64", "math/bits.Add64"], unfollowed := true, recurses := true, named := ["math/bits.divideError", "math/bits.overflowError"], apart := false, narrowed := true }
def ValueAddsUptoSaid : Prop := valueAddsUptoRow.holds Try.pinned (OpenSpec.upto valueAddsSpec)

/-- 'lombardlaw09.ValueEnds', WHERE WHAT IT READS IS OF BULK AT MOST 1048576: true; the input reads as it did. -/
def valueEndsUptoRow : OpenClaim := { program := "ytalnlphinlfenaa", sum := "a7be1efff7384ba469a8875d3851c7c385dd1441a48896de7b884965fafc8b40", func := "lombard/lombardlaw09.ValueEnds", spec := "valueEnds", inPlace := ["math/bits.Sub64", "math/bits.Add64"], unfollowed := true, recurses := true, named := ["math/bits.divideError", "math/bits.overflowError"], apart := false, narrowed := true }
def ValueEndsUptoSaid : Prop := valueEndsUptoRow.holds Try.pinned (OpenSpec.upto valueEndsSpec)

/-- 'lombardlaw09.ValueFalls', WHERE WHAT IT READS IS OF BULK AT MOST 1048576: true; the input reads as it did. -/
def valueFallsUptoRow : OpenClaim := { program := "ytalnlphinlfenaa", sum := "a7be1efff7384ba469a8875d3851c7c385dd1441a48896de7b884965fafc8b40", func := "lombard/lombardlaw09.ValueFalls", spec := "valueFalls", inPlace := ["math/bits.Sub64", "math/bits.Add64"], unfollowed := true, recurses := true, named := ["math/bits.divideError", "math/bits.overflowError"], apart := false, narrowed := true }
def ValueFallsUptoSaid : Prop := valueFallsUptoRow.holds Try.pinned (OpenSpec.upto valueFallsSpec)

/-- 'lombardlaw11.TableSums', WHERE WHAT IT READS IS OF BULK AT MOST 1048576: true; the input reads as it did. -/
def tableSumsUptoRow : OpenClaim := { program := "ytalnlphinlfenaa", sum := "a7be1efff7384ba469a8875d3851c7c385dd1441a48896de7b884965fafc8b40", func := "lombard/lombardlaw11.TableSums", spec := "tableSums", inPlace := ["math/bits.Sub64", "math/bits.Add64"], unfollowed := true, recurses := true, named := ["math/bits.divideError", "math/bits.overflowError"], apart := false, narrowed := true }
def TableSumsUptoSaid : Prop := tableSumsUptoRow.holds Try.pinned (OpenSpec.upto tableSumsSpec)

/-- 'lombardlaw11.TableEnds', WHERE WHAT IT READS IS OF BULK AT MOST 1048576: true; the input reads as it did. -/
def tableEndsUptoRow : OpenClaim := { program := "ytalnlphinlfenaa", sum := "a7be1efff7384ba469a8875d3851c7c385dd1441a48896de7b884965fafc8b40", func := "lombard/lombardlaw11.TableEnds", spec := "tableEnds", inPlace := ["math/bits.Sub64", "math/bits.Add64"], unfollowed := true, recurses := true, named := ["math/bits.divideError", "math/bits.overflowError"], apart := false, narrowed := true }
def TableEndsUptoSaid : Prop := tableEndsUptoRow.holds Try.pinned (OpenSpec.upto tableEndsSpec)

end Rows
end Go.Proofs.Ytalnlphinlfenaa
