/- Layer 6 (tree): climbing. -/
import Derived.Test.YtnnkgdijaekcfaaDoorCa
namespace Go.Proofs.YtnnkgdijaekcfaaDoor
open Go
set_option linter.unusedVariables false
set_option linter.unusedSimpArgs false
set_option maxRecDepth 100000

end Go.Proofs.YtnnkgdijaekcfaaDoor
