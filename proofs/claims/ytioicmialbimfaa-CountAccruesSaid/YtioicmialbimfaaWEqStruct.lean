/- Words that the printed texts of this seat use: laid by the print, without those that no text here names. Conditions: none beyond those that each theorem names. -/
import Derived.Test.YtioicmialbimfaaWWords
import Derived.Laws.StructEq
/-! ### 53. '==' of structs as_ one Bool -/
namespace Go.Proofs.YtioicmialbimfaaW.PrintWords
open Go.RowKit
end Go.Proofs.YtioicmialbimfaaW.PrintWords
