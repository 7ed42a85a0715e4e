/- Layer 20 (result): awake; results copied, compared. -/
import Derived.Test.YtnnkgdijaekcfaaDoorIb
import Derived.Test.YtnnkgdijaekcfaaDoorHe
namespace Go.Proofs.YtnnkgdijaekcfaaDoor
open Go
set_option linter.unusedVariables false
set_option linter.unusedSimpArgs false
set_option maxRecDepth 100000

end Go.Proofs.YtnnkgdijaekcfaaDoor
