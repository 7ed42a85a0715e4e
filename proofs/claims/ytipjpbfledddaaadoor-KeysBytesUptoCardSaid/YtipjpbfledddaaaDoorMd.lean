/- Plain facts: the sum of abc. -/
import Derived.Test.YtipjpbfledddaaaDoorMc
import Derived.KernelRfl
namespace Go.Proofs.YtipjpbfledddaaaDoor
open Go
section
variable {P : Program} {E : Env} {t t' ty : TypeId} {w : World} {x y : Operand} {n : Nat} {vx vy : Array Value}
theorem q_eqlA8 {p q : List (BitVec 8)} (h : EqA P t .u8 n) (hx : E.ev x = some (.agg vx)) (hy : E.ev y = some (.agg vy)) (ex : vx = (p.map B8).toArray) (ey : vy = (q.map B8).toArray) (hp : p.length = n) (hq : q.length = n) : Runs P E (.binOp .eql t x y t') ty w (.bool (decide (p = q))) :=
  q_eqlA (k := .u8) (p := p) (q := q) h hx hy ex ey hp hq
theorem q_neqA8 {p q : List (BitVec 8)} (h : EqA P t .u8 n) (hx : E.ev x = some (.agg vx)) (hy : E.ev y = some (.agg vy)) (ex : vx = (p.map B8).toArray) (ey : vy = (q.map B8).toArray) (hp : p.length = n) (hq : q.length = n) : Runs P E (.binOp .neq t x y t') ty w (.bool (decide (p ≠ q))) :=
  q_neqA (k := .u8) (p := p) (q := q) h hx hy ex ey hp hq
theorem q_eqlA32 {p q : List (BitVec 32)} (h : EqA P t .u32 n) (hx : E.ev x = some (.agg vx)) (hy : E.ev y = some (.agg vy)) (ex : vx = (p.map U32).toArray) (ey : vy = (q.map U32).toArray) (hp : p.length = n) (hq : q.length = n) : Runs P E (.binOp .eql t x y t') ty w (.bool (decide (p = q))) :=
  q_eqlA (k := .u32) (p := p) (q := q) h hx hy ex ey hp hq
end
theorem abc_0 : (sha [97#8, 98#8, 99#8]).getD 0 0#8 = 186#8 := by decide +kernel
theorem abc_1 : (sha [97#8, 98#8, 99#8]).getD 1 0#8 = 120#8 := by decide +kernel
theorem abc_31 : (sha [97#8, 98#8, 99#8]).getD 31 0#8 = 173#8 := by decide +kernel
end Go.Proofs.YtipjpbfledddaaaDoor
