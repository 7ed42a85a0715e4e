/- Layer 7 (keys): signatures compared, copied, verified. -/
import Derived.Test.YtnnkgdijaekcfaaGreatDoorHa
import Derived.Test.YtnnkgdijaekcfaaGreatDoorCb
import Derived.Test.YtnnkgdijaekcfaaGreatDoorMzc
namespace Go.Proofs.YtnnkgdijaekcfaaGreatDoor
open Go
set_option linter.unusedVariables false
set_option linter.unusedSimpArgs false
set_option maxRecDepth 100000





end Go.Proofs.YtnnkgdijaekcfaaGreatDoor
