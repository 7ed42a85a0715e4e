/- The first text that is derived from; nothing as a slice. -/
import Derived.Test.YtegjkoohpkchbaaDoorMf
namespace Go.Proofs.YtegjkoohpkchbaaDoor
open Go
theorem By.nil {w : World} : By [] w (.slice none 0 0) [] := ⟨rfl, none, 0, rfl, Nat.le_refl _, fun _ => ⟨rfl, rfl⟩, fun _ h => by cases h⟩
theorem toNat_ofNat64 {n : Nat} (h : n < 18446744073709551616) : (BitVec.ofNat 64 n).toNat = n := by
  rw [BitVec.toNat_ofNat]
  exact Nat.mod_eq_of_lt (by simpa using h)
theorem byte_eq (a : BitVec 64) (x : BitVec 8) (k n : Nat) (ha : a.toNat = n) (h : n / 2 ^ k % 256 = x.toNat) : lowB (a >>> k) = x := by
  apply BitVec.eq_of_toNat_eq
  unfold lowB
  rw [BitVec.toNat_setWidth, BitVec.toNat_ushiftRight, ha, Nat.shiftRight_eq_div_pow]
  exact h
theorem toNat_ofInt8 {m : Nat} : (BitVec.ofInt 8 (m : Int)).toNat = m % 256 := by
  rw [BitVec.ofInt_natCast, BitVec.toNat_ofNat]
theorem dtx_zero (s : Bs) {n : Nat} (h : n ≤ 8160) {x y : BitVec 8} (hx : x = BitVec.ofInt 8 ((n : Int) / 256)) (hy : y = BitVec.ofInt 8 (n : Int)) :
    [0#8, 0#8, 0#8, 1#8] ++ s ++ [0#8, 0#8, 0#8, x, y] = dtx s n 0 := by
  have hn := toNat_ofNat64 (n := n) (by omega)
  have h1 := toNat_ofNat64 (n := 0 + 1) (by omega)
  have hx2 : x.toNat = n / 256 % 256 := by
    rw [hx, show ((n : Int) / 256) = ((n / 256 : Nat) : Int) by omega, toNat_ofInt8]
  have hy2 : y.toNat = n % 256 := by rw [hy, toNat_ofInt8]
  have e1 : beB (BitVec.ofNat 64 (0 + 1)) 4 = [0#8, 0#8, 0#8, 1#8] := by
    simp only [beB]
    rw [byte_eq _ 0#8 (8 * 3) _ h1 (by decide), byte_eq _ 0#8 (8 * 2) _ h1 (by decide), byte_eq _ 0#8 (8 * 1) _ h1 (by decide), byte_eq _ 1#8 (8 * 0) _ h1 (by decide)]
  have z0 : (0#8 : BitVec 8).toNat = 0 := rfl
  have e2 : beB (BitVec.ofNat 64 n) 4 = [0#8, 0#8, x, y] := by
    simp only [beB]
    rw [byte_eq _ 0#8 (8 * 3) _ hn (by rw [z0]; omega), byte_eq _ 0#8 (8 * 2) _ hn (by rw [z0]; omega), byte_eq _ x (8 * 1) _ hn (by rw [hx2]), byte_eq _ y (8 * 0) _ hn (by rw [hy2]; simp)]
  rw [dtx, e1, e2]
  simp
end Go.Proofs.YtegjkoohpkchbaaDoor
