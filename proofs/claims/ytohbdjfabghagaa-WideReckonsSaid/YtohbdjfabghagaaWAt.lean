/- Words that the printed texts of this seat use: laid by the print, without those that no text here names. Conditions: none beyond those that each theorem names. -/
import Derived.Test.YtohbdjfabghagaaWFootNe
/-! ### 54. Behind orders that were drawn quietly: the same facts at the world's new name; a flat row's foot -/
namespace Go.Proofs.YtohbdjfabghagaaW.PrintWords
open Go.RowKit
namespace Kd
end Kd
end Go.Proofs.YtohbdjfabghagaaW.PrintWords
