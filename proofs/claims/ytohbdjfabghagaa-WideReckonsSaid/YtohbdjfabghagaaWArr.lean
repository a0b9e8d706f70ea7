/- Words that the printed texts of this seat use: laid by the print, without those that no text here names. Conditions: none beyond those that each theorem names. -/
import Derived.Test.YtohbdjfabghagaaWWords
/-! ### 41. Arrays '[n]T' as_ values: a kind (a field, an element of a row), an element read, an element set -/
namespace Go.Proofs.YtohbdjfabghagaaW.PrintWords
open Go.RowKit
namespace Kd
end Kd
end Go.Proofs.YtohbdjfabghagaaW.PrintWords
