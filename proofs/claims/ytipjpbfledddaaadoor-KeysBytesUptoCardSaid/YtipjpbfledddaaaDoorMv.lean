/- Plain laws of layer 6: a tree's halves. -/
import Derived.Test.YtipjpbfledddaaaDoorMu
namespace Go.Proofs.YtipjpbfledddaaaDoor
open Go
theorem lvl_append (a b : List Bs) (h : a.length % 2 = 0) : lvl (a ++ b) = lvl a ++ lvl b := by
  apply List.ext_getElem?
  intro i
  simp only [lvl, List.getElem?_append, List.getElem?_map, List.length_append, List.length_map, List.length_range]
  by_cases h1 : i < a.length / 2
  · have h2 : i < (a.length + b.length) / 2 := by omega
    have e1 : (a ++ b).getD (2 * i) [] = a.getD (2 * i) [] := by simp [List.getD, List.getElem?_append, show 2 * i < a.length by omega]
    have e2 : (a ++ b).getD (2 * i + 1) [] = a.getD (2 * i + 1) [] := by simp [List.getD, List.getElem?_append, show 2 * i + 1 < a.length by omega]
    simp only [h1, h2, if_true, List.getElem?_range, Option.map_some, e1, e2]
  · by_cases h2 : i < (a.length + b.length) / 2
    · have h3 : i - a.length / 2 < b.length / 2 := by omega
      have e1 : (a ++ b).getD (2 * i) [] = b.getD (2 * (i - a.length / 2)) [] := by
        simp only [List.getD, List.getElem?_append, if_neg (show ¬ 2 * i < a.length by omega)]
        rw [show 2 * i - a.length = 2 * (i - a.length / 2) by omega]
      have e2 : (a ++ b).getD (2 * i + 1) [] = b.getD (2 * (i - a.length / 2) + 1) [] := by
        simp only [List.getD, List.getElem?_append, if_neg (show ¬ 2 * i + 1 < a.length by omega)]
        rw [show 2 * i + 1 - a.length = 2 * (i - a.length / 2) + 1 by omega]
      simp only [h1, h2, h3, if_false, List.getElem?_range, Option.map_some, e1, e2]
    · have h3 : ¬ i - a.length / 2 < b.length / 2 := by omega
      simp [h1, h2, h3]
theorem lvls_append {a b : List Bs} {m : Nat} (ha : a.length = 2 ^ m) : ∀ {j : Nat}, j ≤ m → lvls (a ++ b) j = lvls a j ++ lvls b j
  | 0, _ => rfl
  | j + 1, h => by
    rw [lvls, lvls_append ha (by omega), lvl_append _ _ (by rw [lvls_length ha (by omega), show m - j = (m - (j + 1)) + 1 by omega, Nat.pow_succ]; omega)]
    rfl
theorem one_of {l : List Bs} (h : l.length = 1) : l = [l.getD 0 []] := by
  match l, h with
  | [x], _ => rfl
/-- a tree's root is the node above the roots of its halves -/
theorem root_halves {a b : List Bs} {m : Nat} (ha : a.length = 2 ^ m) (hb : b.length = 2 ^ m) : (lvls (a ++ b) (m + 1)).getD 0 [] = ab ((lvls a m).getD 0 []) ((lvls b m).getD 0 []) := by
  have h1 := lvls_length ha (Nat.le_refl m)
  have h2 := lvls_length hb (Nat.le_refl m)
  rw [Nat.sub_self] at h1 h2
  rw [lvls, lvls_append ha (Nat.le_refl m), one_of h1, one_of h2]
  generalize (lvls a m).getD 0 [] = x
  generalize (lvls b m).getD 0 [] = y
  simp [lvl]
theorem OwD.takeOf {E : Nat} {v : Value} {ds : List Bs} {k : Nat} {N : Hl} (hd : Dg ds) (hk : k ≤ ds.length) (h : Own E 32 v (k - 0) (((dc ds).drop (0 * 32)).take ((k - 0) * 32)) N) : OwD E v (ds.take k) N := by
  unfold OwD
  rw [List.length_take, Nat.min_eq_left hk, ← dc_take hd k hk]
  simpa using h
theorem OwD.dropOf {E : Nat} {v : Value} {ds : List Bs} {k : Nat} {N : Hl} (hd : Dg ds) (hk : k ≤ ds.length) (h : Own E 32 v (ds.length - k) (((dc ds).drop (k * 32)).take ((ds.length - k) * 32)) N) : OwD E v (ds.drop k) N := by
  unfold OwD
  have hl := dc_length (hd.drop k)
  rw [dc_drop hd k hk, List.take_of_length_le (by rw [hl, List.length_drop]; exact Nat.le_refl _)] at h
  rw [List.length_drop]
  exact h
end Go.Proofs.YtipjpbfledddaaaDoor
