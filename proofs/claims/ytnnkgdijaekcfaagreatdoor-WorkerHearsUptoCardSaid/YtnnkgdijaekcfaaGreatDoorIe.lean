/- Layer 20 (result): a result of bytes. -/
import Derived.Test.YtnnkgdijaekcfaaGreatDoorId
import Derived.Test.YtnnkgdijaekcfaaGreatDoorHn
import Derived.Test.YtnnkgdijaekcfaaGreatDoorEd
namespace Go.Proofs.YtnnkgdijaekcfaaGreatDoor
open Go
set_option linter.unusedVariables false
set_option linter.unusedSimpArgs false
set_option maxRecDepth 100000


theorem refrtext_q {w0 : World} (b_r : Nat) (v : Value) (q : RS) (hB : By [b_r] w0 v q.1) (hl : q.1.length ≤ 1048576) (most : Int) (hmost : most ≤ 9223372036854775807) (hH : HS [b_r] w0 w0 [[(b_r, Obj.cells [v, I (q.2)].toArray 134 (0, 0))]]) : Calls Tryz.prog 73 #[(.pointer (some ⟨b_r, 0, none⟩)), I most] w0 (Ret fun r w' => ∃ v' v2 N, v2 = r ∧ Ow B8 5 v2 (rText most q).1 N ∧ (∀ M w, By M w v q.1 → By M w v' (rText most q).2.1) ∧ HS [b_r] w0 w' [[(b_r, Obj.cells [v', I ((rText most q).2.2)].toArray 134 (0, 0))], N]) := refrtext_any b_r v q.1 q.2 hB hl most hmost hH

end Go.Proofs.YtnnkgdijaekcfaaGreatDoor
