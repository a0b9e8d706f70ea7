import Derived.Test.YtjgleaakgbnjgaaWInv
import Derived.Test.YtjgleaakgbnjgaaWFootNe
set_option linter.unusedSimpArgs false
set_option linter.unusedVariables false
namespace Go.Proofs.YtjgleaakgbnjgaaW.PrintWords
open Go.RowKit
end Go.Proofs.YtjgleaakgbnjgaaW.PrintWords
namespace Go.Proofs.YtjgleaakgbnjgaaW.PrintLast
end Go.Proofs.YtjgleaakgbnjgaaW.PrintLast
