/- Words that the printed texts of this seat use: laid by the print, without those that no text here names. Conditions: none beyond those that each theorem names. -/
import Derived.Test.YtchpeobenlnemaaWN
/-! ### 52. A row that stays read whatever happens to a block (a set of blocks) doesn't lie there -/
namespace Go.Proofs.YtchpeobenlnemaaW.PrintWords
open Go.RowKit
namespace Kd
end Kd
end Go.Proofs.YtchpeobenlnemaaW.PrintWords
