/-
  Walks of the reference: a term is put into others that are in order.
  No condition.
-/
import Derived.Test.YtnjomdjkbbhdoaaDoorWa3
namespace Go.Proofs.YtnjomdjkbbhdoaaDoor
open Go.RowKit
set_option linter.unusedVariables false
set_option linter.unusedSimpArgs false
set_option maxRecDepth 100000

end Go.Proofs.YtnjomdjkbbhdoaaDoor
