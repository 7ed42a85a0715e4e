/- Layer 5 (ots): the same digests? -/
import Derived.Test.YtnnkgdijaekcfaaGreatDoorBi
import Derived.Test.YtnnkgdijaekcfaaGreatDoorMzc
namespace Go.Proofs.YtnnkgdijaekcfaaGreatDoor
open Go
set_option linter.unusedVariables false
set_option linter.unusedSimpArgs false
set_option maxRecDepth 100000


end Go.Proofs.YtnnkgdijaekcfaaGreatDoor
