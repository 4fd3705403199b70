/-
  Walks of the reference: nothing here.
  No condition.
-/
import Derived.Test.YtnjomdjkbbhdoaaDoorWa4
namespace Go.Proofs.YtnjomdjkbbhdoaaDoor
open Go.RowKit
set_option linter.unusedVariables false
set_option linter.unusedSimpArgs false
set_option maxRecDepth 100000

end Go.Proofs.YtnjomdjkbbhdoaaDoor
