/- Layer 20 (result): the laws ResultTexts, ResultChecks, ResultApart, ResultSigned. -/
import Derived.Test.YtnnkgdijaekcfaaGreatDoorIc
namespace Go.Proofs.YtnnkgdijaekcfaaGreatDoor
open Go
set_option linter.unusedVariables false
set_option linter.unusedSimpArgs false
set_option maxRecDepth 100000





end Go.Proofs.YtnnkgdijaekcfaaGreatDoor
