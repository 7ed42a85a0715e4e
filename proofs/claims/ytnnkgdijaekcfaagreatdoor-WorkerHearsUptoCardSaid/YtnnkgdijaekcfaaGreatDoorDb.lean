/- Layer 5 (ots): whatever is asked; verifying; awake. -/
import Derived.Test.YtnnkgdijaekcfaaGreatDoorDa
import Derived.Test.YtnnkgdijaekcfaaGreatDoorCs
import Derived.Test.YtnnkgdijaekcfaaGreatDoorMzc
namespace Go.Proofs.YtnnkgdijaekcfaaGreatDoor
open Go
set_option linter.unusedVariables false
set_option linter.unusedSimpArgs false
set_option maxRecDepth 100000

end Go.Proofs.YtnnkgdijaekcfaaGreatDoor
