/- Layer 20 (result): a result of bytes. -/
import Derived.Test.YtnnkgdijaekcfaaDoorId
import Derived.Test.YtnnkgdijaekcfaaDoorHn
import Derived.Test.YtnnkgdijaekcfaaDoorEd
namespace Go.Proofs.YtnnkgdijaekcfaaDoor
open Go
set_option linter.unusedVariables false
set_option linter.unusedSimpArgs false
set_option maxRecDepth 100000

end Go.Proofs.YtnnkgdijaekcfaaDoor
