/- Words that the printed texts of this seat use: laid by the print, without those that no text here names. Conditions: none beyond those that each theorem names. -/
import Derived.Test.YtohbdjfabghagaaWInv
import Derived.Test.YtohbdjfabghagaaWFootNe
namespace Go.Proofs.YtohbdjfabghagaaW.PrintWords
open Go.RowKit
end Go.Proofs.YtohbdjfabghagaaW.PrintWords
namespace Go.Proofs.YtohbdjfabghagaaW.PrintLast
end Go.Proofs.YtohbdjfabghagaaW.PrintLast
