/- Layer 22 (worker): the document's order of bytes. -/
import Derived.Test.YtnnkgdijaekcfaaDoorKe
import Derived.Test.YtnnkgdijaekcfaaDoorIe
namespace Go.Proofs.YtnnkgdijaekcfaaDoor
open Go
set_option linter.unusedVariables false
set_option linter.unusedSimpArgs false
set_option maxRecDepth 100000

end Go.Proofs.YtnnkgdijaekcfaaDoor
