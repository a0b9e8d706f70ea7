/- Words that the printed texts of this seat use: laid by the print, without those that no text here names. Conditions: none beyond those that each theorem names. -/
import Derived.Test.YtalnlphinlfenaaWInv
import Derived.Test.YtalnlphinlfenaaWFootNe
namespace Go.Proofs.YtalnlphinlfenaaW.PrintWords
open Go.RowKit
end Go.Proofs.YtalnlphinlfenaaW.PrintWords
namespace Go.Proofs.YtalnlphinlfenaaW.PrintLast
end Go.Proofs.YtalnlphinlfenaaW.PrintLast
