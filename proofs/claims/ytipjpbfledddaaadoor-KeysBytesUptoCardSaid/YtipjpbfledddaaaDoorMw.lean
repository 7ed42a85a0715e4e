/- Plain laws of layer 6: lengths that are powers of two; a leaf's path. -/
import Derived.Test.YtipjpbfledddaaaDoorMv
namespace Go.Proofs.YtipjpbfledddaaaDoor
open Go
theorem pow_of_and {n : Nat} (h0 : 0 < n) (h1 : n ≤ 1024) (h2 : n &&& (n - 1) = 0) : ∃ m, m ≤ 10 ∧ n = 2 ^ m := by
  have h : ∀ n : Fin 1025, 0 < n.val → n.val &&& (n.val - 1) = 0 → ∃ m : Fin 11, n.val = 2 ^ m.val := by decide +kernel
  obtain ⟨m, hm⟩ := h ⟨n, by omega⟩ h0 h2
  exact ⟨m.val, by omega, hm⟩
theorem xor1_div (x : Nat) : (x ^^^ 1) / 2 = x / 2 := by rw [Nat.xor_div_two]; simp
theorem xor1_mod (x : Nat) : (x ^^^ 1) % 2 = (x + 1) % 2 := by
  have h := Nat.xor_mod_two_pow (a := x) (b := 1) (n := 1)
  rw [Nat.pow_one] at h
  rw [h]
  rcases Nat.mod_two_eq_zero_or_one x with h1 | h1
  · rw [h1, Nat.add_mod, h1]; rfl
  · rw [h1, Nat.add_mod, h1]; rfl
theorem xor1_e {x : Nat} (h : x % 2 = 0) : x ^^^ 1 = x + 1 := by
  have := xor1_div x; have := xor1_mod x; omega
theorem xor1_o {x : Nat} (h : ¬ x % 2 = 0) : x ^^^ 1 = x - 1 := by
  have := xor1_div x; have := xor1_mod x; omega
/-- a tree's root -/
def rt (ls : List Bs) (m : Nat) : Bs := (lvls ls m).getD 0 []
theorem rt_length {ls : List Bs} (hd : Dg ls) {m : Nat} (h : ls.length = 2 ^ m) : (rt ls m).length = 32 :=
  (lvls_dg hd m).getD (by rw [lvls_length h (Nat.le_refl _)]; exact Nat.pow_pos (by decide))
theorem rt_zero (x : Bs) : rt [x] 0 = x := rfl
theorem rt_one {ls : List Bs} : rt ls 0 = ls.getD 0 [] := rfl
theorem rt_halves {a b : List Bs} {m : Nat} (ha : a.length = 2 ^ m) (hb : b.length = 2 ^ m) : rt (a ++ b) (m + 1) = ab (rt a m) (rt b m) := root_halves ha hb
theorem rt_split {ls : List Bs} {m : Nat} (h : ls.length = 2 ^ (m + 1)) : rt ls (m + 1) = ab (rt (ls.take (2 ^ m)) m) (rt (ls.drop (2 ^ m)) m) := by
  rw [Nat.pow_succ] at h
  have e := rt_halves (a := ls.take (2 ^ m)) (b := ls.drop (2 ^ m)) (m := m) (by rw [List.length_take]; omega) (by rw [List.length_drop]; omega)
  rw [List.take_append_drop] at e
  exact e
/-- a leaf's path, its first k digests -/
def pth (ls : List Bs) (i : Nat) : Nat → List Bs
  | 0 => []
  | k + 1 => pth ls i k ++ [(lvls ls k).getD (i / 2 ^ k ^^^ 1) []]
@[simp] theorem pth_length (ls : List Bs) (i : Nat) : ∀ k, (pth ls i k).length = k
  | 0 => rfl
  | k + 1 => by simp [pth, pth_length ls i k]
theorem idx_lt {i k m : Nat} (hi : i < 2 ^ m) (hk : k < m) : i / 2 ^ k ^^^ 1 < 2 ^ (m - k) := by
  have h1 : i / 2 ^ k < 2 ^ (m - k) := by
    apply Nat.div_lt_of_lt_mul
    rw [← Nat.pow_add, show k + (m - k) = m by omega]
    exact hi
  have h2 : 1 < 2 ^ (m - k) := Nat.one_lt_two_pow (by omega)
  exact Nat.xor_lt_two_pow h1 h2
theorem pth_at {ls : List Bs} (i : Nat) {j : Nat} : ∀ {k : Nat}, j < k → (pth ls i k).getD j [] = (lvls ls j).getD (i / 2 ^ j ^^^ 1) []
  | 0, h => by omega
  | k + 1, h => by
    rw [pth]
    by_cases hj : j < k
    · have := pth_at (ls := ls) i hj
      rw [← this]
      simp [List.getD, List.getElem?_append, hj]
    · obtain rfl : j = k := by omega
      simp [List.getD]
theorem pth_dg {ls : List Bs} (hd : Dg ls) {i m : Nat} (h : ls.length = 2 ^ m) (hi : i < 2 ^ m) : ∀ {k : Nat}, k ≤ m → Dg (pth ls i k)
  | 0, _ => Dg.nil
  | k + 1, hk => (pth_dg hd h hi (by omega)).append (Dg.one ((lvls_dg hd k).getD (by rw [lvls_length h (by omega)]; exact idx_lt hi (by omega))))
theorem pth_lo {a b : List Bs} {i m : Nat} (ha : a.length = 2 ^ m) (hi : i < 2 ^ m) : ∀ {k : Nat}, k ≤ m → pth (a ++ b) i k = pth a i k
  | 0, _ => rfl
  | k + 1, hk => by
    have h1 := lvls_length ha (j := k) (by omega)
    have h2 := idx_lt (k := k) hi (by omega)
    rw [pth, pth, pth_lo ha hi (by omega), lvls_append ha (by omega)]
    simp [List.getD, List.getElem?_append, h1, h2]
theorem pth_hi {a b : List Bs} {i m : Nat} (ha : a.length = 2 ^ m) : ∀ {k : Nat}, k ≤ m → pth (a ++ b) (2 ^ m + i) k = pth b i k
  | 0, _ => rfl
  | k + 1, hk => by
    have h1 := lvls_length ha (j := k) (by omega)
    have e1 : (2 ^ m + i) / 2 ^ k = 2 ^ (m - k) + i / 2 ^ k := by
      rw [show 2 ^ m = 2 ^ (m - k) * 2 ^ k by rw [← Nat.pow_add]; congr 1; omega, Nat.mul_comm, Nat.mul_add_div (Nat.pow_pos (by decide))]
    have e2 : (2 ^ (m - k) + i / 2 ^ k) ^^^ 1 = 2 ^ (m - k) + (i / 2 ^ k ^^^ 1) := by
      obtain ⟨q, hq⟩ : ∃ q, 2 ^ (m - k) = 2 * q := ⟨2 ^ (m - k - 1), by rw [Nat.mul_comm, ← Nat.pow_succ]; congr 1; omega⟩
      have a1 := xor1_div (2 ^ (m - k) + i / 2 ^ k); have a2 := xor1_mod (2 ^ (m - k) + i / 2 ^ k)
      have b1 := xor1_div (i / 2 ^ k); have b2 := xor1_mod (i / 2 ^ k)
      omega
    rw [pth, pth, pth_hi ha (by omega), lvls_append ha (by omega), e1, e2]
    have e3 : ¬ 2 ^ (m - k) + (i / 2 ^ k ^^^ 1) < 2 ^ (m - k) := by omega
    simp [List.getD, List.getElem?_append, h1, e3]
/-- a leaf's path in a tree of two halves -/
theorem pth_left {a b : List Bs} {i m : Nat} (ha : a.length = 2 ^ m) (hi : i < 2 ^ m) : pth (a ++ b) i (m + 1) = pth a i m ++ [rt b m] := by
  have h1 := lvls_length ha (Nat.le_refl m)
  rw [Nat.sub_self] at h1
  rw [pth, pth_lo ha hi (Nat.le_refl m), lvls_append ha (Nat.le_refl m), Nat.div_eq_of_lt hi]
  simp [rt, List.getD, List.getElem?_append, h1]
theorem pth_right {a b : List Bs} {i m : Nat} (ha : a.length = 2 ^ m) (h : 2 ^ m ≤ i) (hi : i < 2 ^ (m + 1)) : pth (a ++ b) i (m + 1) = pth b (i - 2 ^ m) m ++ [rt a m] := by
  have h1 := lvls_length ha (Nat.le_refl m)
  rw [Nat.sub_self] at h1
  rw [Nat.pow_succ] at hi
  obtain ⟨j, rfl⟩ : ∃ j, i = 2 ^ m + j := ⟨i - 2 ^ m, by omega⟩
  have e : (2 ^ m + j) / 2 ^ m = 1 := by rw [Nat.add_div_left _ (Nat.pow_pos (by decide)), Nat.div_eq_of_lt (by omega)]
  rw [pth, pth_hi ha (Nat.le_refl m), lvls_append ha (Nat.le_refl m), e, Nat.add_sub_cancel_left]
  simp [rt, List.getD, List.getElem?_append, h1]
theorem pth_l {ls : List Bs} {i m : Nat} (h : ls.length = 2 ^ (m + 1)) (hi : i < 2 ^ m) : pth ls i (m + 1) = pth (ls.take (2 ^ m)) i m ++ [rt (ls.drop (2 ^ m)) m] := by
  rw [Nat.pow_succ] at h
  have e := pth_left (a := ls.take (2 ^ m)) (b := ls.drop (2 ^ m)) (m := m) (i := i) (by rw [List.length_take]; omega) hi
  rwa [List.take_append_drop] at e
theorem pth_r {ls : List Bs} {i m : Nat} (h : ls.length = 2 ^ (m + 1)) (hi : 2 ^ m ≤ i) (hi2 : i < 2 ^ (m + 1)) : pth ls i (m + 1) = pth (ls.drop (2 ^ m)) (i - 2 ^ m) m ++ [rt (ls.take (2 ^ m)) m] := by
  rw [Nat.pow_succ] at h
  have e := pth_right (a := ls.take (2 ^ m)) (b := ls.drop (2 ^ m)) (m := m) (i := i) (by rw [List.length_take]; omega) hi hi2
  rwa [List.take_append_drop] at e
theorem lvl_at {l : List Bs} {x : Nat} (h : x / 2 < l.length / 2) : (lvl l).getD (x / 2) [] = ab (l.getD (2 * (x / 2)) []) (l.getD (2 * (x / 2) + 1) []) := by
  simp [lvl, List.getD, h]
/-- up its path a leaf leads to each level's node above it -/
theorem clm_pth {ls : List Bs} {i m : Nat} (h : ls.length = 2 ^ m) (hi : i < 2 ^ m) : ∀ {k : Nat}, k ≤ m → clm (ls.getD i []) i (pth ls i m) k = (lvls ls k).getD (i / 2 ^ k) []
  | 0, _ => by simp [clm, lvls]
  | k + 1, hk => by
    have h1 := lvls_length h (j := k) (by omega)
    have h2 : i / 2 ^ k < 2 ^ (m - k) := by
      apply Nat.div_lt_of_lt_mul
      rw [← Nat.pow_add, show k + (m - k) = m by omega]
      exact hi
    have h3 : 2 ^ (m - k) = 2 * 2 ^ (m - k - 1) := by rw [Nat.mul_comm, ← Nat.pow_succ]; congr 1; omega
    rw [clm, clm_pth h hi (by omega), pth_at i (by omega), lvls, Nat.pow_succ, ← Nat.div_div_eq_div_mul]
    generalize i / 2 ^ k = x at h2 ⊢
    rw [lvl_at (by rw [h1]; omega)]
    by_cases he : x % 2 = 0
    · rw [if_pos he, xor1_e he, show 2 * (x / 2) = x by omega]
    · rw [if_neg he, xor1_o he, show 2 * (x / 2) = x - 1 by omega, show x - 1 + 1 = x by omega]
theorem clm_root {ls : List Bs} {i m : Nat} (h : ls.length = 2 ^ m) (hi : i < 2 ^ m) : clm (ls.getD i []) i (pth ls i m) m = rt ls m := by
  rw [clm_pth h hi (Nat.le_refl m), Nat.div_eq_of_lt hi, rt]
theorem pow_le10 {j : Nat} (h : 2 ^ j ≤ 1024) : j ≤ 10 := (Nat.pow_le_pow_iff_right (a := 2) (by decide)).1 (by simpa using h)
/-- may a tree have so many leaves? -/
def Pw (n : Nat) : Prop := ∃ m, m ≤ 10 ∧ n = 2 ^ m
open Classical in
/-- a tree's root, or the error -/
noncomputable def rootV (ls : List Bs) : Bs × Nat := if Pw ls.length then (rt ls ls.length.log2, 0) else (List.replicate 32 0#8, 1)
theorem rootV_ok {ls : List Bs} {m : Nat} (hm : m ≤ 10) (h : ls.length = 2 ^ m) : rootV ls = (rt ls m, 0) := by
  rw [rootV, if_pos ⟨m, hm, h⟩, h, Nat.log2_two_pow]
theorem rootV_bad {ls : List Bs} (h : ¬ Pw ls.length) : rootV ls = (List.replicate 32 0#8, 1) := by rw [rootV, if_neg h]
theorem rootV_length {ls : List Bs} (hd : Dg ls) : (rootV ls).1.length = 32 := by
  by_cases h : Pw ls.length
  · obtain ⟨m, hm, h⟩ := h
    rw [rootV_ok hm h]
    exact rt_length hd h
  · rw [rootV_bad h]; simp
open Classical in
/-- a leaf's path, or the error -/
noncomputable def pathV (ls : List Bs) (i : Int) : List Bs × Nat := if Pw ls.length ∧ 0 ≤ i ∧ i < ls.length then (pth ls i.toNat ls.length.log2, 0) else ([], 1)
theorem pathV_ok {ls : List Bs} {m i : Nat} (hm : m ≤ 10) (h : ls.length = 2 ^ m) (hi : i < 2 ^ m) : pathV ls i = (pth ls i m, 0) := by
  rw [pathV, if_pos ⟨⟨m, hm, h⟩, by omega, by omega⟩, h, Nat.log2_two_pow]
  rfl
theorem pathV_bad {ls : List Bs} {i : Int} (h : ¬ Pw ls.length ∨ i < 0 ∨ (ls.length : Int) ≤ i) : pathV ls i = ([], 1) := by
  rw [pathV, if_neg]
  rintro ⟨h1, h2, h3⟩
  rcases h with h | h | h
  · exact h h1
  · omega
  · omega
theorem pathV_dg {ls : List Bs} (hd : Dg ls) (i : Int) : Dg (pathV ls i).1 := by
  by_cases h : Pw ls.length ∧ 0 ≤ i ∧ i < ls.length
  · obtain ⟨⟨m, hm, h⟩, h2, h3⟩ := h
    obtain ⟨j, rfl⟩ : ∃ j : Nat, i = j := ⟨i.toNat, by omega⟩
    rw [pathV_ok hm h (by omega)]
    exact pth_dg hd h (by omega) (Nat.le_refl m)
  · rw [pathV, if_neg h]
    exact Dg.nil
theorem pathV_len (ls : List Bs) (i : Int) : (pathV ls i).1.length ≤ 10 := by
  by_cases h : Pw ls.length ∧ 0 ≤ i ∧ i < ls.length
  · obtain ⟨⟨m, hm, h⟩, h2, h3⟩ := h
    obtain ⟨j, rfl⟩ : ∃ j : Nat, i = j := ⟨i.toNat, by omega⟩
    rw [pathV_ok hm h (by omega)]
    simpa using hm
  · rw [pathV, if_neg h]
    simp
end Go.Proofs.YtipjpbfledddaaaDoor
