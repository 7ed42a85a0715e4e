/- The package-level tables as the walks read them: printed by a program. -/
import Derived.Test.YthhdilafnfcpbaaDoorTa
import Derived.Test.YthhdilafnfcpbaaDoorMza
import Derived.Test.YthhdilafnfcpbaaDoorLl
namespace Go.Proofs.YthhdilafnfcpbaaDoor
open Go
/-- these tables are there: the reference's ones from a level on -/
structure Gl (lv : Nat) (w : World) : Prop where
  first : 2 ≤ lv → Gv w 0 (iv.map U32)
  consts : 1 ≤ lv → Gv w 2 (kTab.map U32)
  k : Gv w 3 (kTab.map U32)
  begin : Gv w 1 (iv.map U32)
/-- none of these tables' blocks -/
def NG (lv : Nat) (M : List Nat) : Prop := ∀ m ∈ M, (2 ≤ lv → m ≠ 0) ∧ (1 ≤ lv → m ≠ 2) ∧ (m ≠ 3) ∧ (m ≠ 1)
theorem NG.nil {lv : Nat} : NG lv [] := by simp [NG]
theorem Gl.mono {lv : Nat} {M : List Nat} {w0 w : World} {Hs : List Hl} (h : Gl lv w0) (hH : HS M w0 w Hs) (hM : NG lv M) : Gl lv w :=
  ⟨fun hl => hH.gv (h.first hl) (fun hm => (hM _ hm).1 hl rfl), fun hl => hH.gv (h.consts hl) (fun hm => (hM _ hm).2.1 hl rfl), hH.gv h.k (fun hm => (hM _ hm).2.2.1 rfl), hH.gv h.begin (fun hm => (hM _ hm).2.2.2 rfl)⟩
theorem Gl.mono0 {lv : Nat} {w0 w : World} {Hs : List Hl} (h : Gl lv w0) (hH : HS [] w0 w Hs) : Gl lv w := h.mono hH NG.nil
theorem Gv.lt {w : World} {g : Nat} {c : List Value} (h : Gv w g c) : g < w.heap.size := by
  obtain ⟨T, fr, h⟩ := h
  exact (Array.getElem?_eq_some_iff.1 h).1
theorem Gl.ng {lv : Nat} {M : List Nat} {w0 w : World} {N : Hl} {rest : List Hl} (h : Gl lv w0) (hM : NG lv M) (hH : HS M w0 w (N :: rest)) : NG lv (doms [N]) := by
  intro m hm
  obtain ⟨N', hN', p, hp, rfl⟩ := mem_doms.1 hm
  obtain rfl := List.mem_singleton.1 hN'
  rcases hH.dom N' List.mem_cons_self p hp with h1 | h1
  · exact hM _ h1
  · exact ⟨fun hl hc => by have hx := (h.first hl).lt; omega, fun hl hc => by have hx := (h.consts hl).lt; omega, fun hc => by have hx := h.k.lt; omega, fun hc => by have hx := h.begin.lt; omega⟩
end Go.Proofs.YthhdilafnfcpbaaDoor
