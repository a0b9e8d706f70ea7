import Derived.Test.YtjgleaakgbnjgaaWTab
set_option linter.unusedSimpArgs false
set_option linter.unusedVariables false
namespace Go.Proofs.YtjgleaakgbnjgaaW.PrintLast
end Go.Proofs.YtjgleaakgbnjgaaW.PrintLast
