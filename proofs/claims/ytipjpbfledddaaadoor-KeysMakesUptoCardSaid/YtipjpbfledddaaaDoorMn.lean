/- Keys: more about cells; what whole scripts do. -/
import Derived.Test.YtipjpbfledddaaaDoorMp
namespace Go.Proofs.YtipjpbfledddaaaDoor
open Go
set_option linter.unusedSimpArgs false
theorem putL_rkey {s : Bs} (hs : s.length = 32) (n h : Int) : (Value.agg (putL [(0, 32), (32, 1), (33, 1), (34, 1)] ((List.replicate 32 0#8).map B8 ++ [I 0, I 0, I 0]) [(0, .agg (s.map B8).toArray), (1, I n), (2, I h)] [s.map B8, [I n], [I h]]).toArray) = .agg (rkeyC s n h 0).toArray := by
  have e1 : putAt ((List.replicate 32 0#8).map B8 ++ [I 0, I 0, I 0]) 0 (s.map B8) = s.map B8 ++ [I 0, I 0, I 0] := by
    rw [putAt_eq _ _ _ (by simp [hs])]
    simp [hs, List.take_append, List.drop_append, List.take_of_length_le, List.drop_eq_nil_of_le]
  have e2 : putAt (s.map B8 ++ [I 0, I 0, I 0]) 32 [I n] = s.map B8 ++ [I n, I 0, I 0] := by
    rw [putAt_eq _ _ _ (by simp [hs])]
    simp [hs, List.take_append, List.drop_append, List.take_of_length_le, List.drop_eq_nil_of_le]
  have e3 : putAt (s.map B8 ++ [I n, I 0, I 0]) 33 [I h] = s.map B8 ++ [I n, I h, I 0] := by
    rw [putAt_eq _ _ _ (by simp [hs])]
    simp [hs, List.take_append, List.drop_append, List.take_of_length_le, List.drop_eq_nil_of_le]
  simp only [putL, List.getD_cons_zero, List.getD_cons_succ, e1, e2, e3, rkeyC]
theorem Runs.eq {P : Program} {E : Env} {op : Op} {ty : TypeId} {w : World} {v v' : Value} (h : Runs P E op ty w v) (e : v = v') : Runs P E op ty w v' := e ▸ h
end Go.Proofs.YtipjpbfledddaaaDoor
