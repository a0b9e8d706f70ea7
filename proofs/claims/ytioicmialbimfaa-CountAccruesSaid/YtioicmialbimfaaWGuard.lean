/- Words that the printed texts of this seat use: laid by the print, without those that no text here names. Conditions: none beyond those that each theorem names. -/
import Derived.Test.YtioicmialbimfaaWWords
/-! ### 58. A guarded operation whose guard is known to want it: the same goal without the guard -/
namespace Go.Proofs.YtioicmialbimfaaW.PrintWords
open Go.RowKit
end Go.Proofs.YtioicmialbimfaaW.PrintWords
