/- Layer 6 (tree): climbing. -/
import Derived.Test.YtnnkgdijaekcfaaGreatDoorCa
namespace Go.Proofs.YtnnkgdijaekcfaaGreatDoor
open Go
set_option linter.unusedVariables false
set_option linter.unusedSimpArgs false
set_option maxRecDepth 100000






end Go.Proofs.YtnnkgdijaekcfaaGreatDoor
