/- Plain laws of layer 6: a path in two parts. -/
import Derived.Test.YtipjpbfledddaaaDoorMt
namespace Go.Proofs.YtipjpbfledddaaaDoor
open Go
theorem bit_mod (i : Nat) {j k : Nat} (h : j < k) : i % 2 ^ k / 2 ^ j % 2 = i / 2 ^ j % 2 := by
  have h1 := Nat.testBit_mod_two_pow i k j
  simp only [Nat.testBit_eq_decide_div_mod_eq, h, decide_true, Bool.true_and, decide_eq_decide] at h1
  have a := Nat.mod_lt (i % 2 ^ k / 2 ^ j) (show 0 < 2 by decide)
  have b := Nat.mod_lt (i / 2 ^ j) (show 0 < 2 by decide)
  omega
theorem clm_low (p : Bs) (i : Nat) (ds : List Bs) {k : Nat} : ∀ {j : Nat}, j ≤ k → clm p (i % 2 ^ k) (ds.take k) j = clm p i ds j
  | 0, _ => rfl
  | j + 1, h => by
    have hg : (ds.take k).getD j [] = ds.getD j [] := by simp [List.getD, show j < k by omega]
    rw [clm, clm, clm_low p i ds (by omega), bit_mod i (by omega), hg]
theorem clm_high (p : Bs) (i : Nat) (ds : List Bs) (k : Nat) : ∀ j : Nat, clm (clm p i ds k) (i / 2 ^ k) (ds.drop k) j = clm p i ds (k + j)
  | 0 => rfl
  | j + 1 => by
    have hg : (ds.drop k).getD j [] = ds.getD (k + j) [] := by simp [List.getD, List.getElem?_drop]
    rw [clm, clm_high p i ds k j, ← Nat.add_assoc, clm, Nat.div_div_eq_div_mul, ← Nat.pow_add, hg]
theorem clm_parts (p : Bs) (i : Nat) (ds : List Bs) {k : Nat} (h : k ≤ ds.length) : clm (clm p (i % 2 ^ k) (ds.take k) k) (i / 2 ^ k) (ds.drop k) (ds.length - k) = clm p i ds ds.length := by
  rw [clm_low p i ds (Nat.le_refl k), clm_high, show k + (ds.length - k) = ds.length by omega]
theorem clm_quo {i k n qk qn : Nat} (h : k ≤ n) (hk : qk = 2 ^ k) (hn : qn = 2 ^ n) (hi : i < qn) : i / qk < 2 ^ (n - k) := by
  subst hk hn
  apply Nat.div_lt_of_lt_mul
  rw [← Nat.pow_add, show k + (n - k) = n by omega]
  exact hi
theorem RdD.takeOf {M : List Nat} {w : World} {v : Value} {ds : List Bs} {k : Nat} (hd : Dg ds) (hk : k ≤ ds.length) (h : Rd M w v (k - 0) 32 (((dc ds).drop (0 * 32)).take ((k - 0) * 32))) : RdD M w v (ds.take k) := by
  unfold RdD
  rw [List.length_take, Nat.min_eq_left hk, ← dc_take hd k hk]
  simpa using h
theorem RdD.dropOf {M : List Nat} {w : World} {v : Value} {ds : List Bs} {k : Nat} (hd : Dg ds) (hk : k ≤ ds.length) (h : Rd M w v (ds.length - k) 32 (((dc ds).drop (k * 32)).take ((ds.length - k) * 32))) : RdD M w v (ds.drop k) := by
  unfold RdD
  have hl := dc_length (hd.drop k)
  rw [dc_drop hd k hk, List.take_of_length_le (by rw [hl, List.length_drop]; exact Nat.le_refl _)] at h
  rw [List.length_drop]
  exact h
theorem climb_at {P : Program} {f : FuncId} {args : Array Value} {w0 : World} {p : Bs} {i : Nat} {ds : List Bs} {k : Nat} (h : Calls P f args w0 (Ret fun r w' => r = .tuple #[.agg ((clm p i ds ds.length).map B8).toArray, I 0] ∧ HS [] w0 w' [])) (hk : ds.length = k) :
    Calls P f args w0 (Ret fun r w' => r = .tuple #[.agg ((clm p i ds k).map B8).toArray, I 0] ∧ HS [] w0 w' []) := by
  rw [hk] at h
  exact h
end Go.Proofs.YtipjpbfledddaaaDoor
