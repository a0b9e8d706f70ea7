import Derived.Test.YtjgleaakgbnjgaaWApart
import Derived.Test.YtjgleaakgbnjgaaWArr
set_option linter.unusedSimpArgs false
set_option linter.unusedVariables false
namespace Go.Proofs.YtjgleaakgbnjgaaW.PrintWords
open Go.RowKit
namespace Kd
structure Heap {α : Type} (d : Kd α) : Prop where
 K : ∀ {w w1 : World} {x : α} {cs : List Value}, (∀ k, k < w.heap.size → w1.heap[k]? = w.heap[k]?) → d.K w x cs → d.K w1 x cs
end Kd
end Go.Proofs.YtjgleaakgbnjgaaW.PrintWords
