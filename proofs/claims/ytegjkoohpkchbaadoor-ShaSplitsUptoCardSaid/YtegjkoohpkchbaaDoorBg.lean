/- Layer 2 (sha): the laws of chapter 02, joined. -/
import Derived.Test.YtegjkoohpkchbaaDoorBf
namespace Go.Proofs.YtegjkoohpkchbaaDoor
open Go
set_option linter.unusedVariables false
set_option linter.unusedSimpArgs false
set_option maxRecDepth 100000

theorem shaPads_any {w0 : World} {lv : Nat} (hg : Gl lv w0) (n : Int) : Calls Tryd.prog 5 #[I n] w0 (Ret fun r w' => r = .bool true ∧ HS [] w0 w' []) := by
  rcases Classical.em (n < 0 ∨ 1152921504606846976 < n) with h | h
  · exact shaPads_bad hg n h
  · obtain ⟨m, rfl⟩ : ∃ m : Nat, n = m := ⟨n.toNat, by omega⟩
    exact shaPads_ok hg m (by omega)
theorem shaBlocks_any {w0 : World} {lv : Nat} (hg : Gl (lv + 1) w0) (s : List W) (v : Value) (l : Bs) (hs : s.length = 8) (hr : By [] w0 v l) (hl : l.length ≤ 1048576) :
    Calls Tryd.prog 4 #[.agg (s.map U32).toArray, v] w0 (Ret fun r w' => r = .bool true ∧ HS [] w0 w' []) := by
  rcases Classical.em (l.length = 64) with h | h
  · exact shaBlocks_ok hg s v l hs hr h
  · exact shaBlocks_bad hg s v l hs hr hl h
end Go.Proofs.YtegjkoohpkchbaaDoor
