/- Words that the printed texts of this seat use: laid by the print, without those that no text here names. Conditions: none beyond those that each theorem names. -/
import Derived.Test.YtohbdjfabghagaaWN
/-! ### 48. N's events: append, a whole row appended, zeros appended, literals, make, stores, cuts, an element taken out -/
namespace Go.Proofs.YtohbdjfabghagaaW.PrintWords
open Go.RowKit
namespace Kd
end Kd
end Go.Proofs.YtohbdjfabghagaaW.PrintWords
