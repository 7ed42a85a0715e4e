/- Layer 5 (ots): whatever is asked; verifying; awake. -/
import Derived.Test.YtnnkgdijaekcfaaDoorDa
import Derived.Test.YtnnkgdijaekcfaaDoorCs
import Derived.Test.YtnnkgdijaekcfaaDoorMzc
namespace Go.Proofs.YtnnkgdijaekcfaaDoor
open Go
set_option linter.unusedVariables false
set_option linter.unusedSimpArgs false
set_option maxRecDepth 100000

theorem public_tot {w0 : World} {lv : Nat} (hg : Gl lv w0) (s : Bs) (hs : s.length = 32) (n : Int) : Calls Tryd.prog 67 #[(.agg ((s).map B8).toArray), I n] w0 (Ret fun r w' => ∃ v' N, r = .tuple #[v', I (pubT s n).2] ∧ OwD 24 v' (pubT s n).1 N ∧ HS [] w0 w' [N]) := by
  by_cases h : R5 n
  · obtain ⟨m, rfl⟩ : ∃ m : Nat, n = m := ⟨n.toNat, by have := h.1; omega⟩
    rw [pubT_ok h]
    exact public_any hg s hs m h
  · rw [pubT_bad h]
    exact (public_bad s hs n h).mono fun e w' he => by
      obtain ⟨r, h1, h2, h3⟩ := he
      exact ⟨r, h1, _, [], h2, OwD.nil _, h3.nilFront⟩
theorem sign_tot {w0 : World} {lv : Nat} (hg : Gl lv w0) (s : Bs) (hs : s.length = 32) (n : Int) (u : Value) (l : Bs) (hu : By [] w0 u l) (hl : l.length ≤ 1048576) : Calls Tryd.prog 71 #[(.agg ((s).map B8).toArray), I n, u] w0 (Ret fun r w' => ∃ v' N, r = .tuple #[v', I (sigT s n l).2] ∧ OwD 24 v' (sigT s n l).1 N ∧ HS [] w0 w' [N]) := by
  by_cases h : R5 n
  · obtain ⟨m, rfl⟩ : ∃ m : Nat, n = m := ⟨n.toNat, by have := h.1; omega⟩
    rw [sigT_ok h]
    exact sign_any hg s hs m h u l hu hl
  · rw [sigT_bad h]
    exact (sign_bad s hs n h u).mono fun e w' he => by
      obtain ⟨r, h1, h2, h3⟩ := he
      exact ⟨r, h1, _, [], h2, OwD.nil _, h3.nilFront⟩
theorem recover_tot {w0 : World} {lv : Nat} (hg : Gl lv w0) (n : Int) (u : Value) (l : Bs) (hu : By [] w0 u l) (hl : l.length ≤ 1048576) (v : Value) (sg : List Bs) (hd : Dg sg) (hr : RdD [] w0 v sg) (hsm : sg.length ≤ 1048576) : Calls Tryd.prog 102 #[I n, u, v] w0 (Ret fun r w' => r = .tuple #[.agg (((recT n l sg).1).map B8).toArray, I (recT n l sg).2] ∧ HS [] w0 w' []) := by
  by_cases h : R5 n
  · obtain ⟨m, rfl⟩ : ∃ m : Nat, n = m := ⟨n.toNat, by have := h.1; omega⟩
    by_cases h2 : sg.length = 2 * m
    · rw [recT_ok h l h2]
      exact recover_any hg m h u l hu hl v sg hd hr h2
    · rw [recT_form h l h2]
      exact recover_form m h u v sg hd hr h2 hsm
  · rw [recT_bad h]
    exact recover_bad n h u v
theorem refrecover_tot {w0 : World} {lv : Nat} (hg : Gl (lv + 2) w0) (n : Int) (u : Value) (l : Bs) (hu : By [] w0 u l) (hl : l.length ≤ 1048576) (v : Value) (sg : List Bs) (hd : Dg sg) (hr : RdD [] w0 v sg) (hsm : sg.length ≤ 1048576) : Calls Tryd.prog 104 #[I n, u, v] w0 (Ret fun r w' => r = .tuple #[.agg (((recT n l sg).1).map B8).toArray, I (recT n l sg).2] ∧ HS [] w0 w' []) := by
  by_cases h : R5 n
  · obtain ⟨m, rfl⟩ : ∃ m : Nat, n = m := ⟨n.toNat, by have := h.1; omega⟩
    by_cases h2 : sg.length = 2 * m
    · rw [recT_ok h l h2]
      exact refrecover_any hg m h u l hu hl v sg hd hr h2
    · rw [recT_form h l h2]
      exact refrecover_form m h u v sg hd hr h2 hsm
  · rw [recT_bad h]
    exact refrecover_bad n h u v

theorem awake5_ne : (sha (2#8 :: (pubV (List.replicate 32 0#8) 4).flatten)).getD 0 0#8 ≠ 0#8 := by decide +kernel
theorem awake5_no (l : Bs) : ¬ ((recT 2 l (sigT (List.replicate 32 0#8) 2 l).1).2 = 0 ∧ (recT 2 l (sigT (List.replicate 32 0#8) 2 l).1).1 = (List.replicate 32 0#8)) := by
  rw [rec_back (by decide)]
  rintro ⟨_, h⟩
  have h2 : rootO (pubT (List.replicate 32 0#8) 2).1 = (List.replicate 32 0#8) := h
  exact awake5_ne (by show (rootO (pubT (List.replicate 32 0#8) 2).1).getD 0 0#8 = 0#8; rw [h2]; rfl)

end Go.Proofs.YtnnkgdijaekcfaaDoor
