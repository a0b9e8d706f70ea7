/-
  No cell of these rows narrows 'for every input' (looked for: loops, veiled, ifaces, maps, wideKeys, modest, calm, conditions, laid).
  DERIVED. THE GIVEN ROWS OF THIS SEAT. 6 by the template 'for every input the law returns true; each argument reads behind the call as it read before'; 0 by the template 'total and deterministic' (their statements: YtjgleaakgbnjgaaTotals.lean).
  GIVEN WITH THE SEED: the statements are not yours to turn. If you find one false, say at which input.
  Laid BY PROGRAM, IN A SANDBOX (cutbox-rows.mjs): the forced cells as the released guide's own fill.sh prints them over the translation 58f59d835ee87a21… (all of the seat's roots in one cut). By AI agents, Wed Nov 11 2026. No macro, syntax, notation, axiom, sorry.
-/
import Derived.Test.YtjgleaakgbnjgaaChecked
import GoSem.Claim
import GoSem.ClaimJoined
import GoSem.ClaimMapViews
import Derived.JoinedTies
import Derived.KernelRfl
namespace Go.Proofs.Ytjgleaakgbnjgaa
/- THE CELL 'sum', in the pinned program and in every row, IS THE sha256 OF THE DUMP (.gsa) THAT YtjgleaakgbnjgaaProg.lean LOADS. Nothing in Lean hashes anything: it is a label: what it is worth is what the hold of that sum in a sandbox is worth. -/
noncomputable def Try.pinned : Pinned := { name := "ytjgleaakgbnjgaa", sum := "58f59d835ee87a217c4d9cda71ffec05fe5e4f9c0fe1f6cf18bd6553a66b014b", checked := Try.checked }
namespace Rows
def none {H : Type} : Left H := { results := [], args := [] }

/-- 'lombardlaw10.EirFits': WHATEVER THE INPUT: true; the input reads as it did. -/
def eirFitsSpec : ChangeSpec := { name := "eirFits", fn := fun _ => fun
  | [d1, d2, d3] => { results := [.lit (.bool true)], args := [d1, d2, d3] }
  | _ => none }
def eirFitsRow : OpenClaim := { program := "ytjgleaakgbnjgaa", sum := "58f59d835ee87a217c4d9cda71ffec05fe5e4f9c0fe1f6cf18bd6553a66b014b", func := "lombard/lombardlaw10.EirFits", spec := "eirFits", inPlace := ["math/bits.Sub64", "math/bits.Add64"], unfollowed := true, recurses := true, named := ["math/bits.divideError", "math/bits.overflowError"], leaving := true, apart := false }
def EirFitsSaid : Prop := eirFitsRow.holds Try.pinned (OpenSpec.ofChange eirFitsSpec)

/-- ITS FALSE NEIGHBOUR: 'it returns false'. Refute it at one input. -/
def eirFitsWrong : ChangeSpec := { name := "eirFits", fn := fun _ => fun
  | [d1, d2, d3] => { results := [.lit (.bool false)], args := [d1, d2, d3] }
  | _ => none }
def EirFitsWrongFalsely : Prop := eirFitsRow.holds Try.pinned (OpenSpec.ofChange eirFitsWrong)

/-- 'lombardlaw10.EirMore': WHATEVER THE INPUT: true; the input reads as it did. -/
def eirMoreSpec : ChangeSpec := { name := "eirMore", fn := fun _ => fun
  | [d] => { results := [.lit (.bool true)], args := [d] }
  | _ => none }
def eirMoreRow : OpenClaim := { program := "ytjgleaakgbnjgaa", sum := "58f59d835ee87a217c4d9cda71ffec05fe5e4f9c0fe1f6cf18bd6553a66b014b", func := "lombard/lombardlaw10.EirMore", spec := "eirMore", inPlace := ["math/bits.Sub64", "math/bits.Add64"], unfollowed := true, recurses := true, named := ["math/bits.divideError", "math/bits.overflowError"], leaving := true, apart := false }
def EirMoreSaid : Prop := eirMoreRow.holds Try.pinned (OpenSpec.ofChange eirMoreSpec)

/-- ITS FALSE NEIGHBOUR: 'it returns false'. Refute it at one input. -/
def eirMoreWrong : ChangeSpec := { name := "eirMore", fn := fun _ => fun
  | [d] => { results := [.lit (.bool false)], args := [d] }
  | _ => none }
def EirMoreWrongFalsely : Prop := eirMoreRow.holds Try.pinned (OpenSpec.ofChange eirMoreWrong)

/-- 'lombardlaw10.EirEnds': WHATEVER THE INPUT: true; the input reads as it did. -/
def eirEndsSpec : ChangeSpec := { name := "eirEnds", fn := fun _ => fun
  | [d] => { results := [.lit (.bool true)], args := [d] }
  | _ => none }
def eirEndsRow : OpenClaim := { program := "ytjgleaakgbnjgaa", sum := "58f59d835ee87a217c4d9cda71ffec05fe5e4f9c0fe1f6cf18bd6553a66b014b", func := "lombard/lombardlaw10.EirEnds", spec := "eirEnds", inPlace := ["math/bits.Sub64", "math/bits.Add64"], unfollowed := true, recurses := true, named := ["math/bits.divideError", "math/bits.overflowError"], leaving := true, apart := false }
def EirEndsSaid : Prop := eirEndsRow.holds Try.pinned (OpenSpec.ofChange eirEndsSpec)

/-- ITS FALSE NEIGHBOUR: 'it returns false'. Refute it at one input. -/
def eirEndsWrong : ChangeSpec := { name := "eirEnds", fn := fun _ => fun
  | [d] => { results := [.lit (.bool false)], args := [d] }
  | _ => none }
def EirEndsWrongFalsely : Prop := eirEndsRow.holds Try.pinned (OpenSpec.ofChange eirEndsWrong)

/-- 'lombardlaw10.EirSolves': WHATEVER THE INPUT: true; the input reads as it did. -/
def eirSolvesSpec : ChangeSpec := { name := "eirSolves", fn := fun _ => fun
  | [d] => { results := [.lit (.bool true)], args := [d] }
  | _ => none }
def eirSolvesRow : OpenClaim := { program := "ytjgleaakgbnjgaa", sum := "58f59d835ee87a217c4d9cda71ffec05fe5e4f9c0fe1f6cf18bd6553a66b014b", func := "lombard/lombardlaw10.EirSolves", spec := "eirSolves", inPlace := ["math/bits.Sub64", "math/bits.Add64"], unfollowed := true, recurses := true, named := ["math/bits.divideError", "math/bits.overflowError"], leaving := true, apart := false }
def EirSolvesSaid : Prop := eirSolvesRow.holds Try.pinned (OpenSpec.ofChange eirSolvesSpec)

/-- ITS FALSE NEIGHBOUR: 'it returns false'. Refute it at one input. -/
def eirSolvesWrong : ChangeSpec := { name := "eirSolves", fn := fun _ => fun
  | [d] => { results := [.lit (.bool false)], args := [d] }
  | _ => none }
def EirSolvesWrongFalsely : Prop := eirSolvesRow.holds Try.pinned (OpenSpec.ofChange eirSolvesWrong)

/-- 'lombardlaw11.TableSolved': WHATEVER THE INPUT: true; the input reads as it did. -/
def tableSolvedSpec : ChangeSpec := { name := "tableSolved", fn := fun _ => fun
  | [d1, d2] => { results := [.lit (.bool true)], args := [d1, d2] }
  | _ => none }
def tableSolvedRow : OpenClaim := { program := "ytjgleaakgbnjgaa", sum := "58f59d835ee87a217c4d9cda71ffec05fe5e4f9c0fe1f6cf18bd6553a66b014b", func := "lombard/lombardlaw11.TableSolved", spec := "tableSolved", inPlace := ["math/bits.Sub64", "math/bits.Add64"], unfollowed := true, recurses := true, named := ["math/bits.divideError", "math/bits.overflowError"], leaving := true, apart := false }
def TableSolvedSaid : Prop := tableSolvedRow.holds Try.pinned (OpenSpec.ofChange tableSolvedSpec)

/-- ITS FALSE NEIGHBOUR: 'it returns false'. Refute it at one input. -/
def tableSolvedWrong : ChangeSpec := { name := "tableSolved", fn := fun _ => fun
  | [d1, d2] => { results := [.lit (.bool false)], args := [d1, d2] }
  | _ => none }
def TableSolvedWrongFalsely : Prop := tableSolvedRow.holds Try.pinned (OpenSpec.ofChange tableSolvedWrong)

/-- 'lombardlaw10.EirLoans': WHATEVER THE INPUT: true; the input reads as it did. -/
def eirLoansSpec : ChangeSpec := { name := "eirLoans", fn := fun _ => fun
  | [d] => { results := [.lit (.bool true)], args := [d] }
  | _ => none }
def eirLoansRow : OpenClaim := { program := "ytjgleaakgbnjgaa", sum := "58f59d835ee87a217c4d9cda71ffec05fe5e4f9c0fe1f6cf18bd6553a66b014b", func := "lombard/lombardlaw10.EirLoans", spec := "eirLoans", inPlace := ["math/bits.Sub64", "math/bits.Add64"], unfollowed := true, recurses := true, named := ["math/bits.divideError", "math/bits.overflowError"], leaving := true, apart := false }
def EirLoansSaid : Prop := eirLoansRow.holds Try.pinned (OpenSpec.ofChange eirLoansSpec)

/-- ITS FALSE NEIGHBOUR: 'it returns false'. Refute it at one input. -/
def eirLoansWrong : ChangeSpec := { name := "eirLoans", fn := fun _ => fun
  | [d] => { results := [.lit (.bool false)], args := [d] }
  | _ => none }
def EirLoansWrongFalsely : Prop := eirLoansRow.holds Try.pinned (OpenSpec.ofChange eirLoansWrong)

/- THE SECOND FORM. 'bulk': how many values and letters a reading holds, each counted each time it is reached (what is shared counts as often as it is met; a slice's spare places count too). A statement '..UptoSaid' is the law's where the arguments, and the package variables that the reading takes, are together of bulk at most 1048576: NARROWER than '..Said'. Prove '..Said' where nothing that the law and all that it calls make is longer than what came in: it says more and counts as full. Else prove '..UptoSaid'. A law counts once. -/
mutual
def uptoBulk {H : Type} : DataW H → Nat
  | .lit (.string bytes) => bytes.length + 1
  | .lit _ => 1
  | .nil => 1
  | .ptr d => uptoBulk d + 1
  | .slice elems spare => uptoBulkAll elems + uptoBulkAll spare + 1
  | .agg parts => uptoBulkAll parts + 1
  | .iface _ d => uptoBulk d + 1
  | .map entries => uptoBulkEntries entries + 1
  | .held _ => 1
def uptoBulkAll {H : Type} : List (DataW H) → Nat
  | [] => 0
  | d :: r => uptoBulk d + uptoBulkAll r
def uptoBulkEntries {H : Type} : List (Lit × DataW H) → Nat
  | [] => 0
  | x :: r => uptoBulkEntry x + uptoBulkEntries r
def uptoBulkEntry {H : Type} : Lit × DataW H → Nat
  | (.string bytes, d) => bytes.length + uptoBulk d + 1
  | (_, d) => uptoBulk d + 1
 end
def uptoSmall : (H : Type) → List (DataW H) → Bool := fun _ ds => decide (uptoBulkAll ds ≤ 1048576)
def OpenSpec.upto (s : _root_.Go.ChangeSpec) : _root_.Go.OpenSpec := { _root_.Go.OpenSpec.ofChange s with cond := some uptoSmall }

/-- 'lombardlaw10.EirFits', WHERE WHAT IT READS IS OF BULK AT MOST 1048576: true; the input reads as it did. -/
def eirFitsUptoRow : OpenClaim := { program := "ytjgleaakgbnjgaa", sum := "58f59d835ee87a217c4d9cda71ffec05fe5e4f9c0fe1f6cf18bd6553a66b014b", func := "lombard/lombardlaw10.EirFits", spec := "eirFits", inPlace := ["math/bits.Sub64", "math/bits.Add64"], unfollowed := true, recurses := true, named := ["math/bits.divideError", "math/bits.overflowError"], leaving := true, apart := false, narrowed := true }
def EirFitsUptoSaid : Prop := eirFitsUptoRow.holds Try.pinned (OpenSpec.upto eirFitsSpec)

/-- 'lombardlaw10.EirMore', WHERE WHAT IT READS IS OF BULK AT MOST 1048576: true; the input reads as it did. -/
def eirMoreUptoRow : OpenClaim := { program := "ytjgleaakgbnjgaa", sum := "58f59d835ee87a217c4d9cda71ffec05fe5e4f9c0fe1f6cf18bd6553a66b014b", func := "lombard/lombardlaw10.EirMore", spec := "eirMore", inPlace := ["math/bits.Sub64", "math/bits.Add64"], unfollowed := true, recurses := true, named := ["math/bits.divideError", "math/bits.overflowError"], leaving := true, apart := false, narrowed := true }
def EirMoreUptoSaid : Prop := eirMoreUptoRow.holds Try.pinned (OpenSpec.upto eirMoreSpec)

/-- 'lombardlaw10.EirEnds', WHERE WHAT IT READS IS OF BULK AT MOST 1048576: true; the input reads as it did. -/
def eirEndsUptoRow : OpenClaim := { program := "ytjgleaakgbnjgaa", sum := "58f59d835ee87a217c4d9cda71ffec05fe5e4f9c0fe1f6cf18bd6553a66b014b", func := "lombard/lombardlaw10.EirEnds", spec := "eirEnds", inPlace := ["math/bits.Sub64", "math/bits.Add64"], unfollowed := true, recurses := true, named := ["math/bits.divideError", "math/bits.overflowError"], leaving := true, apart := false, narrowed := true }
def EirEndsUptoSaid : Prop := eirEndsUptoRow.holds Try.pinned (OpenSpec.upto eirEndsSpec)

/-- 'lombardlaw10.EirSolves', WHERE WHAT IT READS IS OF BULK AT MOST 1048576: true; the input reads as it did. -/
def eirSolvesUptoRow : OpenClaim := { program := "ytjgleaakgbnjgaa", sum := "58f59d835ee87a217c4d9cda71ffec05fe5e4f9c0fe1f6cf18bd6553a66b014b", func := "lombard/lombardlaw10.EirSolves", spec := "eirSolves", inPlace := ["math/bits.Sub64", "math/bits.Add64"], unfollowed := true, recurses := true, named := ["math/bits.divideError", "math/bits.overflowError"], leaving := true, apart := false, narrowed := true }
def EirSolvesUptoSaid : Prop := eirSolvesUptoRow.holds Try.pinned (OpenSpec.upto eirSolvesSpec)

/-- 'lombardlaw11.TableSolved', WHERE WHAT IT READS IS OF BULK AT MOST 1048576: true; the input reads as it did. -/
def tableSolvedUptoRow : OpenClaim := { program := "ytjgleaakgbnjgaa", sum := "58f59d835ee87a217c4d9cda71ffec05fe5e4f9c0fe1f6cf18bd6553a66b014b", func := "lombard/lombardlaw11.TableSolved", spec := "tableSolved", inPlace := ["math/bits.Sub64", "math/bits.Add64"], unfollowed := true, recurses := true, named := ["math/bits.divideError", "math/bits.overflowError"], leaving := true, apart := false, narrowed := true }
def TableSolvedUptoSaid : Prop := tableSolvedUptoRow.holds Try.pinned (OpenSpec.upto tableSolvedSpec)

/-- 'lombardlaw10.EirLoans', WHERE WHAT IT READS IS OF BULK AT MOST 1048576: true; the input reads as it did. -/
def eirLoansUptoRow : OpenClaim := { program := "ytjgleaakgbnjgaa", sum := "58f59d835ee87a217c4d9cda71ffec05fe5e4f9c0fe1f6cf18bd6553a66b014b", func := "lombard/lombardlaw10.EirLoans", spec := "eirLoans", inPlace := ["math/bits.Sub64", "math/bits.Add64"], unfollowed := true, recurses := true, named := ["math/bits.divideError", "math/bits.overflowError"], leaving := true, apart := false, narrowed := true }
def EirLoansUptoSaid : Prop := eirLoansUptoRow.holds Try.pinned (OpenSpec.upto eirLoansSpec)

end Rows
end Go.Proofs.Ytjgleaakgbnjgaa
