/- Layer 20 (result): awake; results copied, compared. -/
import Derived.Test.YtnnkgdijaekcfaaGreatDoorIb
import Derived.Test.YtnnkgdijaekcfaaGreatDoorHe
namespace Go.Proofs.YtnnkgdijaekcfaaGreatDoor
open Go
set_option linter.unusedVariables false
set_option linter.unusedSimpArgs false
set_option maxRecDepth 100000






end Go.Proofs.YtnnkgdijaekcfaaGreatDoor
