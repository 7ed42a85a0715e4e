/- Layer 20 (result): the laws ResultTexts, ResultChecks, ResultApart, ResultSigned. -/
import Derived.Test.YtnnkgdijaekcfaaDoorIc
namespace Go.Proofs.YtnnkgdijaekcfaaDoor
open Go
set_option linter.unusedVariables false
set_option linter.unusedSimpArgs false
set_option maxRecDepth 100000

end Go.Proofs.YtnnkgdijaekcfaaDoor
