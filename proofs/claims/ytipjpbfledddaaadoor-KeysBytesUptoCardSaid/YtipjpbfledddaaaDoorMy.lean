/- Rows of bytes in memory. -/
import Derived.Test.YtipjpbfledddaaaDoorMx
namespace Go.Proofs.YtipjpbfledddaaaDoor
open Go
set_option linter.unusedVariables false
set_option linter.unusedSimpArgs false
abbrev nilV : Value := .slice none 0 0
theorem getD_some' {α : Type} (l : List α) (d : α) {i : Nat} (hi : i < l.length) : l[i]? = some (l.getD i d) := by simp [List.getD, hi]
/-- bytes that the blocks of N tell -/
def RdH (N : Hl) (v : Value) (l : Bs) : Prop := ∀ M w, RO M w N → By M w v l
theorem RdH.mono {N N' : Hl} {v : Value} {l : Bs} (h : RdH N v l) (hs : ∀ p ∈ N, p ∈ N') : RdH N' v l := fun M w hN => h M w fun p hp => hN p (hs p hp)
theorem Own.rdh {e : Nat} {v : Value} {l : Bs} {N : Hl} (h : Ow B8 e v l N) : RdH N v l := fun M w hN => h.ro hN
/-- rows of one's own: their row of slices, and the bytes' blocks -/
def RowsH (E : Nat) (v : Value) (ls : List Bs) (Nr Nd : Hl) : Prop := ∃ vs : List Value, vs.length = ls.length ∧ Own E 1 v ls.length vs Nr ∧ ∀ i, i < ls.length → RdH Nd (vs.getD i nilV) (ls.getD i [])
theorem RowsH.nil (E : Nat) : RowsH E nilV [] [] [] := ⟨[], rfl, Own.nil E 1, fun i hi => absurd hi (Nat.not_lt_zero i)⟩
theorem RowsH.snoc {E : Nat} {v' x : Value} {ls : List Bs} {l : Bs} {Nr' Nd Nx : Hl} {vs : List Value} (hl : vs.length = ls.length) (ho : Own E 1 v' (ls.length + 1) (vs ++ [x]) Nr') (hr : ∀ i, i < ls.length → RdH Nd (vs.getD i nilV) (ls.getD i [])) (hx : RdH Nx x l) :
    RowsH E v' (ls ++ [l]) Nr' (Nx ++ Nd) := by
  refine ⟨vs ++ [x], by simp [hl], by simpa using ho, fun i hi => ?_⟩
  by_cases h : i < ls.length
  · have e1 : (vs ++ [x]).getD i nilV = vs.getD i nilV := by simp [List.getD, List.getElem?_append, hl, h]
    have e2 : (ls ++ [l]).getD i [] = ls.getD i [] := by simp [List.getD, List.getElem?_append, h]
    rw [e1, e2]
    exact (hr i h).mono fun p hp => List.mem_append_right _ hp
  · have e0 : i = ls.length := by simp at hi; omega
    subst e0
    have e1 : (vs ++ [x]).getD ls.length nilV = x := by simp [List.getD, List.getElem?_append, hl]
    have e2 : (ls ++ [l]).getD ls.length [] = l := by simp [List.getD, List.getElem?_append]
    rw [e1, e2]
    exact hx.mono fun p hp => List.mem_append_left _ hp
/-- rows that are read -/
def RdR (M : List Nat) (w : World) (v : Value) (ls : List Bs) : Prop := ∃ vs : List Value, vs.length = ls.length ∧ Rd M w v ls.length 1 vs ∧ ∀ i, i < ls.length → By M w (vs.getD i nilV) (ls.getD i [])
theorem RowsH.rdR {E : Nat} {v : Value} {ls : List Bs} {Nr Nd : Hl} {M : List Nat} {w0 w : World} {Hs : List Hl} (h : RowsH E v ls Nr Nd) (hH : HS M w0 w Hs) (i j : Nat) (hi : nth? Hs i = some Nr) (hj : nth? Hs j = some Nd) : RdR [] w v ls := by
  obtain ⟨vs, h1, h2, h3⟩ := h
  exact ⟨vs, h1, h2.rd0 hH i hi, fun k hk => h3 k hk [] w (RO.of hH j hj)⟩
theorem HS.rdR {M : List Nat} {w0 w : World} {Hs : List Hl} {v : Value} {ls : List Bs} (hH : HS M w0 w Hs) (h : RdR M w0 v ls) : RdR [] w v ls := by
  obtain ⟨vs, h1, h2, h3⟩ := h
  exact ⟨vs, h1, hH.rd h2, fun k hk => hH.rd (h3 k hk)⟩
theorem RdR.cut0 {M : List Nat} {w : World} {v : Value} {ls : List Bs} (h : RdR M w v ls) (hi : Nat) (h2 : hi ≤ ls.length) :
    ∃ v', (∀ a c, v = .slice a ls.length c → v' = .slice (if c = 0 then a else a.map (·.add (0 * 1))) (hi - 0) (c - 0)) ∧ RdR M w v' (ls.take hi) := by
  obtain ⟨vs, h1, h3, h4⟩ := h
  obtain ⟨v', hv, ho⟩ := Rd.cut h3 0 hi (Nat.zero_le _) h2
  refine ⟨v', hv, vs.take hi, by simp [h1], ?_, fun i hi' => ?_⟩
  · have e : (ls.take hi).length = hi - 0 := by rw [List.length_take]; omega
    rw [e]
    simpa using ho
  · rw [List.length_take] at hi'
    have e1 : (vs.take hi).getD i nilV = vs.getD i nilV := by simp [List.getD, List.getElem?_take, show i < hi by omega]
    have e2 : (ls.take hi).getD i [] = ls.getD i [] := by simp [List.getD, List.getElem?_take, show i < hi by omega]
    rw [e1, e2]
    exact h4 i (by omega)
theorem RdR.shp {M : List Nat} {w : World} {v : Value} {ls : List Bs} (h : RdR M w v ls) : Shp v ls.length := by
  obtain ⟨vs, h1, h2, h3⟩ := h
  exact h2.shp
theorem RowsH.shp {E : Nat} {v : Value} {ls : List Bs} {Nr Nd : Hl} (h : RowsH E v ls Nr Nd) : Shp v ls.length := by
  obtain ⟨vs, h1, h2, h3⟩ := h
  exact h2.shp
section
variable {P : Program} {E : Env} {ty t t' : TypeId} {w : World} {x y : Operand}
theorem q_neqB {p q : Bool} (hT : P.underlying t = some .bool) (hx : E.ev x = some (.bool p)) (hy : E.ev y = some (.bool q)) : Runs P E (.binOp .neq t x y t') ty w (.bool (decide (¬ p = q))) := by
  intro ρ dst pos af g hρ
  simp only [execOp, hρ _ _ hx, hρ _ _ hy]
  have := run_equalIn_bool (P := P) w 9999 t p q hT
  simp [eqGuard, binOp, Op.equal, Op.maxDepth, this]
  cases p <;> cases q <;> rfl
end
section
variable {P : Program} {E : Env} {ty t t' : TypeId} {w : World} {x y : Operand} {M : List Nat} {w0 : World} {Hs : List Hl}
/-- a literal of one value -/
theorem lo_build1 {parts : List (Nat × Operand)} {e bb : Nat} {z v : Value} (hH : HS M w0 w Hs) (ht : P.underlying t = some (.slice e)) (he : TI P e 1 bb z) (hz : z.cells.size = 1)
    (hp : evs E parts = some [(0, v)]) (hv : v.oneCell' = true) :
    Lo P E (.buildSlice t 1 parts.toArray) ty w (fun u w' => ∃ N, Own e 1 u 1 [v] N ∧ HS M w0 w' (N :: Hs)) := by
  refine lo_buildSlice (k := 1) (bb := bb) (z := z) hH hp rfl fun w => ?_
  have hc := cells_one hv
  have hs : v.cells.size = 1 := by rw [← Array.length_toList, hc]; rfl
  obtain ⟨u0, hu0⟩ : ∃ u0, ((Array.range (1 * 1)).map (z.cells[· % z.cells.size]!)) = [u0].toArray := by
    refine ⟨z.cells[0 % z.cells.size]!, ?_⟩
    rw [show Array.range (1 * 1) = #[0] from by decide]
    simp
  have hf := fill_cons (place := fun i => some (i * 1, 1)) (c := [u0]) (i := 0) (off := 0) (size := 1) (v := v) (rest := []) rfl hs (by simp)
  simp only [Instr.buildSlice, Sem.run_bind, run_underlying ht, he.size, he.zero, Result.andThen_ok, Sem.run_pure]
  rw [if_neg (by decide), if_neg (by decide)]
  simp only [Sem.run_bind, Sem.run_pure, he.zero, Result.andThen_ok, hu0]
  rw [hf, hc]
  simp [Instr.fill, putAt, newRow]
end
/-- a digest's first bytes -/
theorem HS.by8 {M : List Nat} {w0 w : World} {Hs : List Hl} {b T : Nat} {fr : Nat × Nat} {l : Bs} (hH : HS M w0 w Hs) (i : Nat) (hi : nth? Hs i = some [(b, Obj.cells (l.map B8).toArray T fr)]) (hl : l.length = 32) :
    By [] w (.slice (some ⟨b, 0, none⟩) 8 32) (l.take 8) := by
  have h8 : (l.take 8).length = 8 := by rw [List.length_take]; omega
  refine ⟨by simp, some ⟨b, 0, none⟩, 32, by rw [h8], by rw [h8]; decide, (fun h => by cases h), fun ad had _ => ?_⟩
  cases had
  refine ⟨rfl, by simp, _, T, fr, hH.at0 hi (List.mem_singleton.2 rfl), by simp [hl], fun k hk => ?_⟩
  rw [h8] at hk
  simp only [Nat.zero_add, List.getElem?_toArray, List.getElem?_map, List.getElem?_take]
  rw [if_pos (by omega)]
end Go.Proofs.YtipjpbfledddaaaDoor
