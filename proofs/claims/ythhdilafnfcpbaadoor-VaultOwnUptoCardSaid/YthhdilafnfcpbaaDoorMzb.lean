/- The texts Mt, Mu, Mv, Mw of this proof's library, one behind the other. -/
import Derived.Test.YthhdilafnfcpbaaDoorMza
/- Digests in a row, in memory; plain laws of layer 6: the tree. -/
namespace Go.Proofs.YthhdilafnfcpbaaDoor
open Go
set_option linter.unusedVariables false
set_option linter.unusedSimpArgs false

/-- digests' cells -/
def dc (ls : List Bs) : List Value := ls.flatMap (·.map B8)
/-- each has 32 bytes -/
def Dg (ls : List Bs) : Prop := ∀ x ∈ ls, x.length = 32
theorem Dg.nil : Dg [] := by simp [Dg]
theorem Dg.one {x : Bs} (h : x.length = 32) : Dg [x] := by simpa [Dg] using h
theorem Dg.append {a b : List Bs} (ha : Dg a) (hb : Dg b) : Dg (a ++ b) := fun x hx => (List.mem_append.1 hx).elim (ha x) (hb x)
theorem Dg.take {a : List Bs} (ha : Dg a) (n : Nat) : Dg (a.take n) := fun x hx => ha x (List.mem_of_mem_take hx)
theorem Dg.drop {a : List Bs} (ha : Dg a) (n : Nat) : Dg (a.drop n) := fun x hx => ha x (List.mem_of_mem_drop hx)
theorem Dg.getD {a : List Bs} (ha : Dg a) {i : Nat} (hi : i < a.length) : (a.getD i []).length = 32 := by
  rw [List.getD, List.getElem?_eq_getElem hi]
  exact ha _ (List.getElem_mem hi)
theorem Dg.set {a : List Bs} (ha : Dg a) (i : Nat) {x : Bs} (hx : x.length = 32) : Dg (a.set i x) := fun y hy => by
  rcases List.mem_or_eq_of_mem_set hy with h | rfl
  · exact ha y h
  · exact hx
theorem dc_append (a b : List Bs) : dc (a ++ b) = dc a ++ dc b := by simp [dc]
theorem dc_length : ∀ {ls : List Bs}, Dg ls → (dc ls).length = ls.length * 32
  | [], _ => rfl
  | x :: ls, h => by
    have h1 : x.length = 32 := h x (by simp)
    have h2 := dc_length (ls := ls) fun y hy => h y (by simp [hy])
    simp only [dc, List.flatMap_cons, List.length_append, List.length_map, List.length_cons] at h2 ⊢
    omega
theorem dc_split (ls : List Bs) (i : Nat) : dc ls = dc (ls.take i) ++ dc (ls.drop i) := by rw [← dc_append, List.take_append_drop]
theorem dc_take {ls : List Bs} (h : Dg ls) (i : Nat) (hi : i ≤ ls.length) : (dc ls).take (i * 32) = dc (ls.take i) := by
  have hl := dc_length (h.take i)
  rw [List.length_take, Nat.min_eq_left hi] at hl
  rw [dc_split ls i, List.take_append_of_le_length (by omega), List.take_of_length_le (by omega)]
theorem dc_drop {ls : List Bs} (h : Dg ls) (i : Nat) (hi : i ≤ ls.length) : (dc ls).drop (i * 32) = dc (ls.drop i) := by
  have hl := dc_length (h.take i)
  rw [List.length_take, Nat.min_eq_left hi] at hl
  conv => lhs; rw [dc_split ls i]
  rw [List.drop_append_of_le_length (by omega), List.drop_eq_nil_of_le (by omega), List.nil_append]
abbrev OwD (E : Nat) (v : Value) (ls : List Bs) (N : Hl) : Prop := Own E 32 v ls.length (dc ls) N
abbrev RdD (M : List Nat) (w : World) (v : Value) (ls : List Bs) : Prop := Rd M w v ls.length 32 (dc ls)

section
variable {P : Program} {E : Env} {ty t : TypeId} {w : World} {x y : Operand} {M : List Nat} {w0 : World} {Hs : List Hl}
end

/-! ### the tree -/
/-- the node above two -/
def ab (a b : Bs) : Bs := sha (3#8 :: (a ++ b))
@[simp] theorem ab_length (a b : Bs) : (ab a b).length = 32 := by simp [ab]
/-- the level above -/
def lvl (ls : List Bs) : List Bs := (List.range (ls.length / 2)).map fun i => ab (ls.getD (2 * i) []) (ls.getD (2 * i + 1) [])
@[simp] theorem lvl_length (ls : List Bs) : (lvl ls).length = ls.length / 2 := by simp [lvl]
/-- where a leaf leads up the first k nodes -/
def clm (p : Bs) (i : Nat) (ds : List Bs) : Nat → Bs
  | 0 => p
  | k + 1 => if i / 2 ^ k % 2 = 0 then ab (clm p i ds k) (ds.getD k []) else ab (ds.getD k []) (clm p i ds k)
/-- the levels above -/
def lvls (ls : List Bs) : Nat → List Bs
  | 0 => ls
  | j + 1 => lvl (lvls ls j)
end Go.Proofs.YthhdilafnfcpbaaDoor
/- Plain laws of layer 6: a path in two parts. -/
namespace Go.Proofs.YthhdilafnfcpbaaDoor
open Go
end Go.Proofs.YthhdilafnfcpbaaDoor
/- Plain laws of layer 6: a tree's halves. -/
namespace Go.Proofs.YthhdilafnfcpbaaDoor
open Go
end Go.Proofs.YthhdilafnfcpbaaDoor
/- Plain laws of layer 6: lengths that are powers of two; a leaf's path. -/
namespace Go.Proofs.YthhdilafnfcpbaaDoor
open Go
/-- a leaf's path, its first k digests -/
def pth (ls : List Bs) (i : Nat) : Nat → List Bs
  | 0 => []
  | k + 1 => pth ls i k ++ [(lvls ls k).getD (i / 2 ^ k ^^^ 1) []]
@[simp] theorem pth_length (ls : List Bs) (i : Nat) : ∀ k, (pth ls i k).length = k
  | 0 => rfl
  | k + 1 => by simp [pth, pth_length ls i k]
end Go.Proofs.YthhdilafnfcpbaaDoor
