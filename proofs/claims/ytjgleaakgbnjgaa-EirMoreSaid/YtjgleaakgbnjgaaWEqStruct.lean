import Derived.Test.YtjgleaakgbnjgaaWWords
import Derived.Laws.StructEq
set_option linter.unusedSimpArgs false
set_option linter.unusedVariables false
namespace Go.Proofs.YtjgleaakgbnjgaaW.PrintWords
open Go.RowKit
end Go.Proofs.YtjgleaakgbnjgaaW.PrintWords
