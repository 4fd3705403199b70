/-
  Walks of the reference: a power of a power.
  No condition.
-/
import Derived.Test.YtnjomdjkbbhdoaaDoorWa5
namespace Go.Proofs.YtnjomdjkbbhdoaaDoor
open Go.RowKit
set_option linter.unusedVariables false
set_option linter.unusedSimpArgs false
set_option maxRecDepth 100000

end Go.Proofs.YtnjomdjkbbhdoaaDoor
