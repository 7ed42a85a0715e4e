/- Layer 7 (keys): a signature of bytes. -/
import Derived.Test.YtnnkgdijaekcfaaGreatDoorHa
import Derived.Test.YtnnkgdijaekcfaaGreatDoorEc
import Derived.Test.YtnnkgdijaekcfaaGreatDoorMzc
namespace Go.Proofs.YtnnkgdijaekcfaaGreatDoor
open Go
set_option linter.unusedVariables false
set_option linter.unusedSimpArgs false
set_option maxRecDepth 100000



theorem refrnum_q {w0 : World} (b_r : Nat) (v : Value) (q : RS) (hB : By [b_r] w0 v q.1) (hl : q.1.length ≤ 1048576) (most : BitVec 64) (m : Nat) (hm : most.toNat = m) (hH : HS [b_r] w0 w0 [[(b_r, Obj.cells [v, I (q.2)].toArray 134 (0, 0))]]) : Calls Tryz.prog 72 #[(.pointer (some ⟨b_r, 0, none⟩)), U64 most] w0 (Ret fun r w' => ∃ v', r = U64 (rNum m q).1 ∧ (∀ M w, By M w v q.1 → By M w v' (rNum m q).2.1) ∧ HS [b_r] w0 w' [[(b_r, Obj.cells [v', I ((rNum m q).2.2)].toArray 134 (0, 0))]]) := refrnum_any b_r v q.1 q.2 hB hl most m hm hH
theorem refrdig_q {w0 : World} (b_r : Nat) (v : Value) (q : RS) (hB : By [b_r] w0 v q.1) (hl : q.1.length ≤ 1048576) (hH : HS [b_r] w0 w0 [[(b_r, Obj.cells [v, I (q.2)].toArray 134 (0, 0))]]) : Calls Tryz.prog 74 #[(.pointer (some ⟨b_r, 0, none⟩))] w0 (Ret fun r w' => ∃ v', r = .agg ((rDig q).1.map B8).toArray ∧ (∀ M w, By M w v q.1 → By M w v' (rDig q).2.1) ∧ HS [b_r] w0 w' [[(b_r, Obj.cells [v', I ((rDig q).2.2)].toArray 134 (0, 0))]]) := refrdig_any b_r v q.1 q.2 hB hl hH
theorem refrend_q {w0 : World} (b_r : Nat) (v : Value) (q : RS) (hB : By [b_r] w0 v q.1) (hl : q.1.length ≤ 1048576) (hH : HS [b_r] w0 w0 [[(b_r, Obj.cells [v, I (q.2)].toArray 134 (0, 0))]]) : Calls Tryz.prog 75 #[(.pointer (some ⟨b_r, 0, none⟩))] w0 (Ret fun r w' => r = I (rEnd q).1 ∧ HS [b_r] w0 w' [[(b_r, Obj.cells [v, I ((rEnd q).1)].toArray 134 (0, 0))]]) := refrend_any b_r v q.1 q.2 hB hl hH


end Go.Proofs.YtnnkgdijaekcfaaGreatDoor
