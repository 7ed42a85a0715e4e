/- Layer 5 (ots): whatever is asked; verifying; awake. -/
import Derived.Test.YtnnkgdijaekcfaaDoorDa
import Derived.Test.YtnnkgdijaekcfaaDoorCs
import Derived.Test.YtnnkgdijaekcfaaDoorMzc
namespace Go.Proofs.YtnnkgdijaekcfaaDoor
open Go
set_option linter.unusedVariables false
set_option linter.unusedSimpArgs false
set_option maxRecDepth 100000

theorem recover_tot {w0 : World} {lv : Nat} (hg : Gl lv w0) (n : Int) (u : Value) (l : Bs) (hu : By [] w0 u l) (hl : l.length ≤ 1048576) (v : Value) (sg : List Bs) (hd : Dg sg) (hr : RdD [] w0 v sg) (hsm : sg.length ≤ 1048576) : Calls Tryd.prog 102 #[I n, u, v] w0 (Ret fun r w' => r = .tuple #[.agg (((recT n l sg).1).map B8).toArray, I (recT n l sg).2] ∧ HS [] w0 w' []) := by
  by_cases h : R5 n
  · obtain ⟨m, rfl⟩ : ∃ m : Nat, n = m := ⟨n.toNat, by have := h.1; omega⟩
    by_cases h2 : sg.length = 2 * m
    · rw [recT_ok h l h2]
      exact recover_any hg m h u l hu hl v sg hd hr h2
    · rw [recT_form h l h2]
      exact recover_form m h u v sg hd hr h2 hsm
  · rw [recT_bad h]
    exact recover_bad n h u v
end Go.Proofs.YtnnkgdijaekcfaaDoor
