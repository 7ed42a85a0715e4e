/- Keys: more about cells; what whole scripts do. -/
import Derived.Test.YtipjpbfledddaaaDoorMp
namespace Go.Proofs.YtipjpbfledddaaaDoor
open Go
set_option linter.unusedSimpArgs false
theorem putL_rkey {s : Bs} (hs : s.length = 32) (n h : Int) : (Value.agg (putL [(0, 32), (32, 1), (33, 1), (34, 1)] ((List.replicate 32 0#8).map B8 ++ [I 0, I 0, I 0]) [(0, .agg (s.map B8).toArray), (1, I n), (2, I h)] [s.map B8, [I n], [I h]]).toArray) = .agg (rkeyC s n h 0).toArray := by
  have e1 : putAt ((List.replicate 32 0#8).map B8 ++ [I 0, I 0, I 0]) 0 (s.map B8) = s.map B8 ++ [I 0, I 0, I 0] := by
    rw [putAt_eq _ _ _ (by simp [hs])]
    simp [hs, List.take_append, List.drop_append, List.take_of_length_le, List.drop_eq_nil_of_le]
  have e2 : putAt (s.map B8 ++ [I 0, I 0, I 0]) 32 [I n] = s.map B8 ++ [I n, I 0, I 0] := by
    rw [putAt_eq _ _ _ (by simp [hs])]
    simp [hs, List.take_append, List.drop_append, List.take_of_length_le, List.drop_eq_nil_of_le]
  have e3 : putAt (s.map B8 ++ [I n, I 0, I 0]) 33 [I h] = s.map B8 ++ [I n, I h, I 0] := by
    rw [putAt_eq _ _ _ (by simp [hs])]
    simp [hs, List.take_append, List.drop_append, List.take_of_length_le, List.drop_eq_nil_of_le]
  simp only [putL, List.getD_cons_zero, List.getD_cons_succ, e1, e2, e3, rkeyC]
theorem Runs.eq {P : Program} {E : Env} {op : Op} {ty : TypeId} {w : World} {v v' : Value} (h : Runs P E op ty w v) (e : v = v') : Runs P E op ty w v' := e ▸ h
/-- the address of a field of an element -/
theorem q_fldE {P : Program} {E : Env} {ty t : TypeId} {w : World} {x : Operand} {fs : Array Field} {f : Field} {i k bb j : Nat} {z v : Value} (o : Nat) (hT : P.underlying t = some (.struct fs)) (hf : fs[i]? = some f) (ho : f.offset = o) (he : TI P f.type (k + 1) bb z)
    (hx : E.ev x = some (.pointer (some (v.cellAt j)))) : Runs P E (.fieldAddr t x i) ty w (.pointer (some (v.cellAt (j + o)))) := by
  obtain ⟨b, p, hb⟩ : ∃ b p, v.cellAt j = ⟨b, p, none⟩ := by
    unfold Value.cellAt
    split <;> exact ⟨_, _, rfl⟩
  have h := q_fieldAddr (P := P) (ty := ty) (w := w) hT hf he (by rw [hx, hb])
  rw [ho] at h
  rw [← cellAt_add, hb, add_off]
  exact h
/-- acts in a row: what they are, two numbers, a text each -/
def dA : Int × Int × Bs := (0, 0, [])
def RdA (M : List Nat) (w : World) (v : Value) (ac : List (Int × Int × Bs)) : Prop :=
  ∃ cs ts : List Value, Rd M w v ac.length 3 cs ∧ ∀ i, i < ac.length → cs[i * 3 + 0]? = some (I (ac.getD i dA).1) ∧ cs[i * 3 + 1]? = some (I (ac.getD i dA).2.1) ∧ cs[i * 3 + 2]? = some (ts.getD i nilV) ∧ By M w (ts.getD i nilV) (ac.getD i dA).2.2
end Go.Proofs.YtipjpbfledddaaaDoor
