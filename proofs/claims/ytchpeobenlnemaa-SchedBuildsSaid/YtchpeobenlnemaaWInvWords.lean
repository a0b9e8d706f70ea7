/- Words that the printed texts of this seat use: laid by the print, without those that no text here names. Conditions: none beyond those that each theorem names. -/
import Derived.Test.YtchpeobenlnemaaWInv
import Derived.Test.YtchpeobenlnemaaWFootNe
namespace Go.Proofs.YtchpeobenlnemaaW.PrintWords
open Go.RowKit
end Go.Proofs.YtchpeobenlnemaaW.PrintWords
namespace Go.Proofs.YtchpeobenlnemaaW.PrintLast
end Go.Proofs.YtchpeobenlnemaaW.PrintLast
