/- Layer 22 (worker): the law WorkerRight. -/
import Derived.Test.YtnnkgdijaekcfaaDoorKh
namespace Go.Proofs.YtnnkgdijaekcfaaDoor
open Go
set_option linter.unusedVariables false
set_option linter.unusedSimpArgs false
set_option maxRecDepth 100000

theorem dec20_h {w0 : World} (v : Value) (l : Bs) (hr : By [] w0 v l) (hl : l.length ≤ 1048576) (n h : Int) {D : (Bs × Bs × Nat × List Bs × List Bs) × Nat} (hD : D = decR n h l) : Calls Tryd.prog 31 #[v, I n, I h] w0 (Ret fun r w' => ∃ a b u x N0 N1 N2 N3, r = .tuple #[.agg #[a, b, I D.1.2.2.1, u, x], I D.2] ∧ Ow B8 5 a D.1.1 N0 ∧ Ow B8 5 b D.1.2.1 N1 ∧ OwD 24 u D.1.2.2.2.1 N2 ∧ OwD 24 x D.1.2.2.2.2 N3 ∧ HS [] w0 w' [N0, N1, N2, N3]) := by
  rw [hD]
  exact dec20_any v l hr hl n h
theorem dec20_k {w0 : World} (v : Value) (l : Bs) (hr : By [] w0 v l) (hl : l.length ≤ 1048576) (n h : Int) {U0 V0 : Bs} {i0 : Nat} {A0 B0 : List Bs} (hD : ((U0, V0, i0, A0, B0), 0) = decR n h l) : Calls Tryd.prog 31 #[v, I n, I h] w0 (Ret fun r w' => ∃ a b u x N0 N1 N2 N3, r = .tuple #[.agg #[a, b, I i0, u, x], I 0] ∧ Ow B8 5 a U0 N0 ∧ Ow B8 5 b V0 N1 ∧ OwD 24 u A0 N2 ∧ OwD 24 x B0 N3 ∧ HS [] w0 w' [N0, N1, N2, N3]) := dec20_h v l hr hl n h hD
end Go.Proofs.YtnnkgdijaekcfaaDoor
