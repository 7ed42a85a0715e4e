/- Layer 5 (ots): whatever is asked; verifying; awake. -/
import Derived.Test.YtnnkgdijaekcfaaDoorDa
import Derived.Test.YtnnkgdijaekcfaaDoorCs
import Derived.Test.YtnnkgdijaekcfaaDoorMzc
namespace Go.Proofs.YtnnkgdijaekcfaaDoor
open Go
set_option linter.unusedVariables false
set_option linter.unusedSimpArgs false
set_option maxRecDepth 100000

end Go.Proofs.YtnnkgdijaekcfaaDoor
