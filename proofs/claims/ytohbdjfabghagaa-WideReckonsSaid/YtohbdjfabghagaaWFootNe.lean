/- Words that the printed texts of this seat use: laid by the print, without those that no text here names. Conditions: none beyond those that each theorem names. -/
import Derived.Test.YtohbdjfabghagaaWN
/-! ### 52. A row that stays read whatever happens to a block (a set of blocks) doesn't lie there -/
namespace Go.Proofs.YtohbdjfabghagaaW.PrintWords
open Go.RowKit
namespace Kd
end Kd
end Go.Proofs.YtohbdjfabghagaaW.PrintWords
