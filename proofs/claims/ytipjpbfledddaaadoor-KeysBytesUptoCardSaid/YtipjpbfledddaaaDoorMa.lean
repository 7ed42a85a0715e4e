/- Plain laws of layer 1: turning, words, bytes. No program in sight. -/
import Derived.Test.YtipjpbfledddaaaDoorLl
namespace Go.Proofs.YtipjpbfledddaaaDoor
open Go
set_option linter.unusedVariables false
set_option linter.unusedSimpArgs false

/-- turned to the right -/
def rotR (x : BitVec 32) (n : Nat) : BitVec 32 := x >>> n ||| x <<< (32 - n)

theorem rot_k {n : Nat} (h : n < 32) : (BitVec.ofInt 64 (n : Int) &&& 31#64).toNat = n := by
  rw [BitVec.ofInt_natCast, BitVec.toNat_and, BitVec.toNat_ofNat, Nat.mod_eq_of_lt (by omega)]
  have : (31#64).toNat = 2 ^ 5 - 1 := rfl
  rw [this, Nat.and_two_pow_sub_one_eq_mod]
  omega
theorem rot_prog (x : BitVec 32) {n : Nat} (h : n < 32) : x >>> (BitVec.ofInt 64 (n : Int) &&& 31#64).toNat ||| x <<< (32#64 - (BitVec.ofInt 64 (n : Int) &&& 31#64)).toNat = rotR x n := by
  have e : (32#64 - (BitVec.ofInt 64 (n : Int) &&& 31#64)).toNat = 32 - n := by
    rw [BitVec.toNat_sub, rot_k h]
    have : (32#64).toNat = 32 := rfl
    omega
  rw [rot_k h, e, rotR]

/-- one step of turning -/
def rot1 (x : BitVec 32) : BitVec 32 := x / 2#32 + (x % 2#32) * 2147483648#32
theorem rot1_nat (x : Nat) (h : x < 4294967296) : (x / 2 + (x % 2 * 2147483648) % 4294967296) % 4294967296 = (x >>> 1) ||| ((x <<< 31) % 4294967296) := by
  have e : x <<< 31 % 4294967296 = 2 ^ 31 * (x % 2) := by rw [Nat.shiftLeft_eq]; omega
  have e2 : x >>> 1 = x / 2 := by rw [Nat.shiftRight_eq_div_pow]
  rw [e, e2, Nat.or_comm, ← Nat.two_pow_add_eq_or_of_lt (by omega)]
  omega
theorem rot1_gen (x c t : BitVec 32) (hc : c.toNat = 2147483648) (ht : t.toNat = 2) : x / t + (x % t) * c = rotR x 1 := by
  apply BitVec.eq_of_toNat_eq
  have h := x.isLt
  have := rot1_nat x.toNat h
  simp only [rotR, BitVec.toNat_add, BitVec.toNat_mul, BitVec.toNat_udiv, BitVec.toNat_umod, BitVec.toNat_or, BitVec.toNat_ushiftRight, BitVec.toNat_shiftLeft, hc, ht]
  exact this
theorem rot1_eq (x : BitVec 32) : rot1 x = rotR x 1 := rot1_gen x 2147483648#32 2#32 (by decide) (by decide)

def rotN (n : Nat) (x : BitVec 32) : BitVec 32 := Nat.repeat rot1 n x
theorem rotN_succ (n : Nat) (x : BitVec 32) : rotN (n + 1) x = rot1 (rotN n x) := rfl
theorem rotN_zero (x : BitVec 32) : rotN 0 x = x := rfl

theorem getLsbD_rotR (x : BitVec 32) {n : Nat} (hn : n < 32) (i : Nat) (hi : i < 32) : (rotR x n).getLsbD i = x.getLsbD ((i + n) % 32) := by
  simp only [rotR, BitVec.getLsbD_or, BitVec.getLsbD_ushiftRight, BitVec.getLsbD_shiftLeft, hi, decide_true, Bool.true_and]
  by_cases h : i + n < 32
  · rw [Nat.mod_eq_of_lt h]
    have : i < 32 - n := by omega
    simp [this, Nat.add_comm]
  · have h1 : (i + n) % 32 = i - (32 - n) := by omega
    have h2 : x.getLsbD (n + i) = false := BitVec.getLsbD_of_ge _ _ (by omega)
    have h3 : ¬ i < 32 - n := by omega
    simp [h1, h2, h3]
theorem rotR_zero (x : BitVec 32) : rotR x 0 = x := by
  apply BitVec.eq_of_getLsbD_eq
  intro i hi
  rw [getLsbD_rotR x (by omega) i hi, Nat.add_zero, Nat.mod_eq_of_lt hi]
theorem rotR_succ (x : BitVec 32) {n : Nat} (h : n + 1 < 32) : rotR (rotR x n) 1 = rotR x (n + 1) := by
  apply BitVec.eq_of_getLsbD_eq
  intro i hi
  rw [getLsbD_rotR _ (by omega) i hi, getLsbD_rotR _ (by omega) _ (by omega), getLsbD_rotR _ h i hi]
  congr 1
  omega
theorem rotN_eq (x : BitVec 32) : ∀ {n : Nat}, n < 32 → rotN n x = rotR x n
  | 0, _ => by rw [rotN_zero, rotR_zero]
  | n + 1, h => by rw [rotN_succ, rotN_eq x (by omega), rot1_eq, rotR_succ x h]

/-! bytes as numbers -/
/-- a number's lowest byte -/
def lowB (n : BitVec 64) : BitVec 8 := n.setWidth 8
/-- the k lowest bytes of a number, the highest first -/
def beB (n : BitVec 64) : Nat → List (BitVec 8)
  | 0 => []
  | k + 1 => lowB (n >>> (8 * k)) :: beB n k
/-- the number of bytes -/
def num (l : List (BitVec 8)) : BitVec 64 := l.foldl (fun n c => n <<< 8 ||| c.setWidth 64) 0#64
theorem num_snoc (l : List (BitVec 8)) (c : BitVec 8) : num (l ++ [c]) = num l <<< 8 ||| c.setWidth 64 := by simp [num]
theorem beB_length (n : BitVec 64) : ∀ k, (beB n k).length = k
  | 0 => rfl
  | k + 1 => by simp [beB, beB_length n k]
theorem low_rem (n c : BitVec 64) (hc : c.toNat = 256) : (n % c).setWidth 8 = lowB n := by
  apply BitVec.eq_of_toNat_eq
  simp only [lowB, BitVec.toNat_setWidth, BitVec.toNat_umod, hc]
  omega
theorem quo_shr (n c : BitVec 64) (hc : c.toNat = 256) (k : Nat) : (n >>> (8 * k)) / c = n >>> (8 * (k + 1)) := by
  apply BitVec.eq_of_toNat_eq
  simp only [BitVec.toNat_udiv, BitVec.toNat_ushiftRight, hc, Nat.shiftRight_eq_div_pow, Nat.div_div_eq_div_mul]
  congr 1
  rw [Nat.mul_add, Nat.pow_add]
theorem shr_zero (n : BitVec 64) : n >>> (8 * 0) = n := by simp
/-- what the program's loop has written -/
theorem beB_set (n : BitVec 64) {k i : Nat} (h : i < k) : (List.replicate (k - i) 0#8 ++ beB n i).set (k - 1 - i) (lowB (n >>> (8 * i))) = List.replicate (k - (i + 1)) 0#8 ++ beB n (i + 1) := by
  have e : k - i = (k - (i + 1)) + 1 := by omega
  rw [e, List.replicate_succ', List.append_assoc, List.set_append_right _ _ (by simp; omega)]
  simp only [List.length_replicate]
  rw [show k - 1 - i - (k - (i + 1)) = 0 by omega]
  rfl
/-- the number of four bytes -/
def word (l : List (BitVec 8)) (i : Nat) : BitVec 32 := (num ((l.drop i).take 4)).setWidth 32
theorem num_ltn : ∀ (n : Nat) (l : List (BitVec 8)), l.length = n → n ≤ 8 → (num l).toNat < 256 ^ l.length ∧ (num l).toNat = l.foldl (fun n c => n * 256 + c.toNat) 0 := by
  intro n
  induction n with
  | zero =>
    intro l h _
    obtain rfl := List.eq_nil_of_length_eq_zero h
    exact ⟨by decide, rfl⟩
  | succ n ih =>
    intro l hl h
    obtain ⟨l, c, rfl⟩ : ∃ l' c, l = l' ++ [c] := by
      rcases List.eq_nil_or_concat l with rfl | ⟨l', c, rfl⟩
      · simp at hl
      · exact ⟨l', c, by simp⟩
    simp only [List.length_append, List.length_cons, List.length_nil, Nat.zero_add] at hl
    obtain ⟨h1, h2⟩ := ih l (by omega) (by omega)
    have hc := c.isLt
    have hp : 256 ^ l.length ≤ 256 ^ 7 := Nat.pow_le_pow_right (by omega) (by omega)
    have e1 : (num (l ++ [c])).toNat = (num l).toNat * 256 + c.toNat := by
      rw [num_snoc, BitVec.toNat_or, BitVec.toNat_shiftLeft, BitVec.toNat_setWidth]
      have e2 : c.toNat % 2 ^ 64 = c.toNat := Nat.mod_eq_of_lt (by omega)
      have e3 : (num l).toNat <<< 8 % 2 ^ 64 = (num l).toNat <<< 8 := Nat.mod_eq_of_lt (by rw [Nat.shiftLeft_eq]; omega)
      rw [e2, e3, ← Nat.shiftLeft_add_eq_or_of_lt (by omega), Nat.shiftLeft_eq]
    rw [e1, List.foldl_append, ← h2]
    refine ⟨?_, rfl⟩
    simp only [List.length_append, List.length_cons, List.length_nil, Nat.zero_add, Nat.pow_succ]
    omega
theorem num_lt (l : List (BitVec 8)) (h : l.length ≤ 8) : (num l).toNat < 256 ^ l.length ∧ (num l).toNat = l.foldl (fun n c => n * 256 + c.toNat) 0 := num_ltn _ l rfl h
theorem word_eq {l : List (BitVec 8)} {i : Nat} (h : i + 4 ≤ l.length) (c1 c2 c3 : BitVec 32) (h1 : c1.toNat = 16777216) (h2 : c2.toNat = 65536) (h3 : c3.toNat = 256) :
    (l.getD i 0#8).setWidth 32 * c1 + (l.getD (i + 1) 0#8).setWidth 32 * c2 + (l.getD (i + 2) 0#8).setWidth 32 * c3 + (l.getD (i + 3) 0#8).setWidth 32 = word l i := by
  have e : (l.drop i).take 4 = [l.getD i 0#8, l.getD (i + 1) 0#8, l.getD (i + 2) 0#8, l.getD (i + 3) 0#8] := by
    apply List.ext_getElem?
    intro j
    rw [List.getElem?_take, List.getElem?_drop]
    match j with
    | 0 => simp [List.getD, show i < l.length by omega]
    | 1 => simp [List.getD, show i + 1 < l.length by omega]
    | 2 => simp [List.getD, show i + 2 < l.length by omega]
    | 3 => simp [List.getD, show i + 3 < l.length by omega]
    | j + 4 => simp; intro h; omega
  generalize l.getD i 0#8 = b0 at *
  generalize l.getD (i + 1) 0#8 = b1 at *
  generalize l.getD (i + 2) 0#8 = b2 at *
  generalize l.getD (i + 3) 0#8 = b3 at *
  apply BitVec.eq_of_toNat_eq
  have hn := (num_lt [b0, b1, b2, b3] (by simp)).2
  have g0 := b0.isLt
  have g1 := b1.isLt
  have g2 := b2.isLt
  have g3 := b3.isLt
  simp only [word, e, BitVec.toNat_setWidth, hn, BitVec.toNat_add, BitVec.toNat_mul, h1, h2, h3, List.foldl_cons, List.foldl_nil]
  omega
end Go.Proofs.YtipjpbfledddaaaDoor
