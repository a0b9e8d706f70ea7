import Derived.Test.YtjgleaakgbnjgaaWApart
import Derived.Test.YtjgleaakgbnjgaaWArr
set_option linter.unusedSimpArgs false
set_option linter.unusedVariables false
namespace Go.Proofs.YtjgleaakgbnjgaaW.PrintWords
open Go.RowKit
namespace Kd
end Kd
end Go.Proofs.YtjgleaakgbnjgaaW.PrintWords
