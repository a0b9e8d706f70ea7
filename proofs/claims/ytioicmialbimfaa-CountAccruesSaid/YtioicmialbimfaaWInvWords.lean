/- Words that the printed texts of this seat use: laid by the print, without those that no text here names. Conditions: none beyond those that each theorem names. -/
import Derived.Test.YtioicmialbimfaaWInv
import Derived.Test.YtioicmialbimfaaWFootNe
namespace Go.Proofs.YtioicmialbimfaaW.PrintWords
open Go.RowKit
end Go.Proofs.YtioicmialbimfaaW.PrintWords
namespace Go.Proofs.YtioicmialbimfaaW.PrintLast
end Go.Proofs.YtioicmialbimfaaW.PrintLast
