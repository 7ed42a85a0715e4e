/- Layer 6 (tree): the law TreeParts, joined. -/
import Derived.Test.YtommjkbbgmkdoaaDoorCe
namespace Go.Proofs.YtommjkbbgmkdoaaDoor
open Go
set_option linter.unusedVariables false
set_option linter.unusedSimpArgs false
set_option maxRecDepth 100000

theorem treeParts_any {w0 : World} {lv : Nat} (hg : Gl lv w0) (p : Bs) (i : Int) (v : Value) (ds : List Bs) (k : Int) (hp : p.length = 32) (hd : Dg ds) (hr : RdD [] w0 v ds) (hl : ds.length ≤ 1048576) :
    Calls Tryd.prog 7 #[.agg (p.map B8).toArray, I i, v, I k] w0 (Ret fun r w' => r = .bool true ∧ HS [] w0 w' []) := by
  rcases Classical.em (10 < ds.length ∨ i < 0 ∨ (2 : Int) ^ ds.length ≤ i ∨ k < 0 ∨ ds.length < k) with h | h
  · exact treeParts_bad hg p i v ds k hp hd hr hl h
  · obtain ⟨m, rfl⟩ : ∃ m : Nat, i = m := ⟨i.toNat, by omega⟩
    obtain ⟨n, rfl⟩ : ∃ n : Nat, k = n := ⟨k.toNat, by omega⟩
    have h2 : ¬ (2 : Int) ^ ds.length ≤ (m : Int) := fun e => h (.inr (.inr (.inl e)))
    have h3 : m < 2 ^ ds.length := by
      rcases Nat.lt_or_ge m (2 ^ ds.length) with h4 | h4
      · exact h4
      · exact absurd (by exact_mod_cast h4) h2
    exact treeParts_ok hg p m v ds n hp hd hr hl (by omega) h3 (by omega)
end Go.Proofs.YtommjkbbgmkdoaaDoor
