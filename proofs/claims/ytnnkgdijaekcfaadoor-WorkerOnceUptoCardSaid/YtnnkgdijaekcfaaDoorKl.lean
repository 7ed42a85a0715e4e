/- Layer 22 (worker): the law WorkerRefuses. -/
import Derived.Test.YtnnkgdijaekcfaaDoorKk
namespace Go.Proofs.YtnnkgdijaekcfaaDoor
open Go
set_option linter.unusedVariables false
set_option linter.unusedSimpArgs false
set_option maxRecDepth 100000

theorem HdOk.mv {M : List Nat} {w0 w : World} {Hs : List Hl} {e : Heard} (hH : HS M w0 w Hs) (h : HdOk M w0 e) : HdOk [] w e := ⟨hH.rd h.1, hH.rd h.2.1, h.2.2.1, h.2.2.2⟩
end Go.Proofs.YtnnkgdijaekcfaaDoor
