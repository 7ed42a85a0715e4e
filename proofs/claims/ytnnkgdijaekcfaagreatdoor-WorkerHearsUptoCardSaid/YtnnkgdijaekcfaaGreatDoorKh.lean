/- Layer 22 (worker): the laws WorkerNil, WorkerOrders, WorkerRight. -/
import Derived.Test.YtnnkgdijaekcfaaGreatDoorKg
namespace Go.Proofs.YtnnkgdijaekcfaaGreatDoor
open Go
set_option linter.unusedVariables false
set_option linter.unusedSimpArgs false
set_option maxRecDepth 100000

theorem refencw_g {w0 : World} {lv : Nat} (hg : Gl (lv + 2) w0) (key : Bs) (hkey : key.length = 32) (jj aa ii : Int) (tv pv : Value) (T Pl : Bs) (htv : By [] w0 tv T) (hpv : By [] w0 pv Pl) (hlT : T.length ≤ 1048576) (hlP : Pl.length ≤ 1048576) (nn : Bs) (hnn : nn.length = 32) {E : Bs × Nat} (hE : E = encO key jj aa ii T Pl nn) : Calls Tryz.prog 25 #[(.agg ((key).map B8).toArray), (.agg (ordC jj aa ii tv pv nn).toArray)] w0 (Ret fun r w' => ∃ v' N, r = .tuple #[v', I E.2] ∧ Ow B8 5 v' E.1 N ∧ HS [] w0 w' [N]) := by
  rw [hE]
  exact refencw_any hg key hkey jj aa ii tv pv T Pl htv hpv hlT hlP nn hnn
theorem refdecw_g {w0 : World} {lv : Nat} (hg : Gl (lv + 2) w0) (key : Bs) (hkey : key.length = 32) (v : Value) (l : Bs) (hr : By [] w0 v l) (hl : l.length ≤ 1000000) {D : (Nat × Nat × Nat × Bs × Bs × Bs) × Nat} (hD : D = decO key l) : Calls Tryz.prog 34 #[(.agg ((key).map B8).toArray), v] w0 (Ret fun r w' => ∃ t p N1 N2, r = .tuple #[.agg (ordC D.1.1 D.1.2.1 D.1.2.2.1 t p D.1.2.2.2.2.2).toArray, I D.2] ∧ Ow B8 5 t D.1.2.2.2.1 N1 ∧ Ow B8 5 p D.1.2.2.2.2.1 N2 ∧ HS [] w0 w' [N1, N2]) := by
  rw [hD]
  exact refdecw_any hg key hkey v l hr hl
theorem encO_len (key : Bs) (j a i : Int) (T P : Bs) {n : Bs} (hn : n.length = 32) : (encO key j a i T P n).1.length ≤ 400 := by
  by_cases h : MayO j a i T P
  · rw [encO_ok h]
    obtain ⟨⟨a1, a2⟩, ⟨a3, a4⟩, ⟨a5, a6⟩, a7, a8⟩ := h
    have h1 := bodyO_len (j := j.toNat) (a := a.toNat) (i := i.toNat) (T := T) (P := P) (n := n) (by omega) (by omega) (by omega) (by omega) (by omega) hn
    have h2 := macV_length key (bodyO j.toNat a.toNat i.toNat T P n)
    simp only [List.length_append]; omega
  · rw [encO_bad h]; simp


end Go.Proofs.YtnnkgdijaekcfaaGreatDoor
