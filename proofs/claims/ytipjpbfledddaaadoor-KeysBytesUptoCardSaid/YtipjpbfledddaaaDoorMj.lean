/- Plain laws of layer 7: keys. -/
import Derived.Test.YtipjpbfledddaaaDoorMw
import Derived.Test.YtipjpbfledddaaaDoorMo
import Derived.Test.YtipjpbfledddaaaDoorMr
namespace Go.Proofs.YtipjpbfledddaaaDoor
open Go
set_option linter.unusedSimpArgs false
/-- the seed of a key's index -/
def seedK (s : Bs) (i : Nat) : Bs := macV s (sBytes ⟨#[107, 101, 121]⟩ ++ [0#8] ++ beB (BitVec.ofInt 64 (i : Int)) 8)
@[simp] theorem seedK_length (s : Bs) (i : Nat) : (seedK s i).length = 32 := by simp [seedK]
/-- an index' leaf -/
def leafK (s : Bs) (n i : Nat) : Bs := rootO (pubV (seedK s i) (2 * n))
@[simp] theorem leafK_length (s : Bs) (n i : Nat) : (leafK s n i).length = 32 := by simp [leafK, rootO]
/-- a key's leaves, the first m -/
def leavesK (s : Bs) (n m : Nat) : List Bs := (List.range m).map (leafK s n)
@[simp] theorem leavesK_length (s : Bs) (n m : Nat) : (leavesK s n m).length = m := by simp [leavesK]
theorem leavesK_succ (s : Bs) (n m : Nat) : leavesK s n (m + 1) = leavesK s n m ++ [leafK s n m] := by simp [leavesK, List.range_succ]
theorem leavesK_dg (s : Bs) (n m : Nat) : Dg (leavesK s n m) := fun x hx => by
  obtain ⟨i, _, rfl⟩ := List.mem_map.1 hx
  exact leafK_length s n i
theorem leavesK_at (s : Bs) (n : Nat) {i m : Nat} (h : i < m) : (leavesK s n m).getD i [] = leafK s n i := by simp [leavesK, List.getD, h]
/-- a key's public key -/
def pubK (s : Bs) (n h : Nat) : Bs := rt (leavesK s n (2 ^ h)) h
theorem pubK_length (s : Bs) (n h : Nat) : (pubK s n h).length = 32 := rt_length (leavesK_dg s n _) (leavesK_length s n _)
/-- a signature's digests -/
def otsK (s : Bs) (n i : Nat) (text : Bs) : List Bs := sigV (seedK s i) text n
def pthK (s : Bs) (n h i : Nat) : List Bs := pth (leavesK s n (2 ^ h)) i h
/-- may there be such a key? -/
def R7 (n h : Int) : Prop := R5 n ∧ 0 ≤ h ∧ h ≤ 6
instance (n h : Int) : Decidable (R7 n h) := by unfold R7 R5; infer_instance
/-- what is signed leads to the public key -/
theorem sig_back (s text : Bs) {n h i : Nat} (hi : i < 2 ^ h) : clm (rootO (recV text (otsK s n i text) n)) i (pthK s n h i) h = pubK s n h := by
  have e : rootO (recV text (otsK s n i text) n) = (leavesK s n (2 ^ h)).getD i [] := by
    rw [otsK, rec_sig (seedK s i) text (Nat.le_refl n), leavesK_at s n hi, leafK]
  rw [e]
  exact clm_root (leavesK_length s n _) hi
/-! ### a signature's bytes -/
def encK (i : Int) (ots path : List Bs) : Bs := wnum (max i 0).toNat ++ ots.flatten ++ path.flatten
/-- so many digests -/
def rDigs : Nat → RS → List Bs × RS
  | 0, s => ([], s)
  | k + 1, s => ((rDigs k s).1 ++ [(rDig (rDigs k s).2).1], (rDig (rDigs k s).2).2)
@[simp] theorem rDigs_length (s : RS) : ∀ k, (rDigs k s).1.length = k
  | 0 => rfl
  | k + 1 => by simp [rDigs, rDigs_length s k]
theorem rDigs_dg (s : RS) : ∀ k, Dg (rDigs k s).1
  | 0 => Dg.nil
  | k + 1 => (rDigs_dg s k).append (Dg.one (rDig_length _))
theorem rDigs_off {X : Bs} {e : Nat} (h : e ≠ 0) : ∀ k, (rDigs k (X, e)).2 = (X, e)
  | 0 => rfl
  | k + 1 => by rw [rDigs, rDigs_off h k, rDig_off h]
/-- what was read without a fault -/
theorem rDigs_det {X : Bs} : ∀ {k : Nat}, (rDigs k (X, 0)).2.2 = 0 → 32 * k ≤ X.length ∧ (rDigs k (X, 0)).1.flatten = X.take (32 * k) ∧ (rDigs k (X, 0)).2.1 = X.drop (32 * k)
  | 0, _ => by simp [rDigs]
  | k + 1, h => by
    have h0 : (rDigs k (X, 0)).2.2 = 0 := by
      apply Classical.byContradiction
      intro hh
      have e : (rDigs k (X, 0)).2 = ((rDigs k (X, 0)).2.1, (rDigs k (X, 0)).2.2) := rfl
      rw [rDigs, e, rDig_off hh] at h
      exact hh h
    obtain ⟨h1, h2, h3⟩ := rDigs_det h0
    have e : (rDigs k (X, 0)).2 = (X.drop (32 * k), 0) := Prod.ext h3 h0
    have hl : ¬ (X.drop (32 * k)).length < 32 := by
      intro hh
      rw [rDigs, e, rDig_err hh] at h
      simp at h
    rw [rDigs, e, rDig_ok hl]
    rw [List.length_drop] at hl
    refine ⟨by omega, ?_, by simp only [List.drop_drop]; congr 1⟩
    simp only [List.flatten_append, List.flatten_cons, List.flatten_nil, List.append_nil]
    rw [h2, show 32 * (k + 1) = 32 * k + 32 by omega, List.take_add]
/-- digests are read as they were -/
theorem rDigs_back {L : List Bs} (hd : Dg L) (Y : Bs) : ∀ {k : Nat}, k ≤ L.length → rDigs k (L.flatten ++ Y, 0) = (L.take k, (L.drop k).flatten ++ Y, 0)
  | 0, _ => by simp [rDigs]
  | k + 1, hk => by
    have h32 : (L.getD k []).length = 32 := hd.getD (by omega)
    have e : L.drop k = L.getD k [] :: L.drop (k + 1) := by
      rw [List.drop_eq_getElem_cons (by omega)]
      simp [List.getD, show k < L.length by omega]
    rw [rDigs, rDigs_back hd Y (by omega), e, List.flatten_cons, List.append_assoc, rDig_ok (by rw [List.length_append]; omega)]
    simp only
    rw [List.take_left' h32, List.drop_left' h32, take_snoc (d := []) L (by omega)]
theorem rDigs_ok {X : Bs} {e k : Nat} (h : (rDigs k (X, e)).2.2 = 0) : e = 0 := by
  apply Classical.byContradiction
  intro hh
  rw [rDigs_off hh] at h
  exact hh h
theorem rNum_zero {most : Nat} {X : Bs} (h : (rNum most (X, 0)).2.2 = 0) : nE most X = 0 := by
  apply Classical.byContradiction
  intro hh
  rw [rNum_err rfl hh] at h
  exact hh h
theorem rEnd_zero {s : RS} (h : (rEnd s).1 = 0) : s.2 = 0 ∧ s.1.length = 0 := by
  by_cases h1 : s.2 = 0 ∧ 0 < s.1.length
  · rw [rEnd, if_pos h1] at h
    simp at h
  · rw [rEnd, if_neg h1] at h
    exact ⟨h, by
      apply Classical.byContradiction
      intro hh
      exact h1 ⟨h, by omega⟩⟩
/-- the signature of bytes, or the error -/
def decK (n h : Nat) (b : Bs) : (Nat × List Bs × List Bs) × Nat :=
  if (rEnd (rDigs h (rDigs (2 * n) (rNum 18446744073709551615 (b, 0)).2).2).2).1 ≠ 0 then ((0, [], []), (rEnd (rDigs h (rDigs (2 * n) (rNum 18446744073709551615 (b, 0)).2).2).2).1)
  else if 2 ^ h ≤ (rNum 18446744073709551615 (b, 0)).1.toNat then ((0, [], []), 41)
  else (((rNum 18446744073709551615 (b, 0)).1.toNat, (rDigs (2 * n) (rNum 18446744073709551615 (b, 0)).2).1, (rDigs h (rDigs (2 * n) (rNum 18446744073709551615 (b, 0)).2).2).1), 0)
/-- what is read has just these bytes -/
theorem decK_det {n h : Nat} {b : Bs} (hk : (decK n h b).2 = 0) : b = encK (decK n h b).1.1 (decK n h b).1.2.1 (decK n h b).1.2.2 ∧ (decK n h b).1.1 < 2 ^ h ∧ (decK n h b).1.2.1.length = 2 * n ∧ (decK n h b).1.2.2.length = h := by
  by_cases h1 : (rEnd (rDigs h (rDigs (2 * n) (rNum 18446744073709551615 (b, 0)).2).2).2).1 ≠ 0
  · rw [decK, if_pos h1] at hk
    exact absurd hk h1
  · by_cases h2 : 2 ^ h ≤ (rNum 18446744073709551615 (b, 0)).1.toNat
    · rw [decK, if_neg h1, if_pos h2] at hk
      exact absurd hk (by simp)
    · rw [decK, if_neg h1, if_neg h2]
      obtain ⟨e1, e2⟩ := rEnd_zero (Classical.not_not.1 h1)
      have o0 : (rDigs (2 * n) (rNum 18446744073709551615 (b, 0)).2).2.2 = 0 := rDigs_ok (k := h) e1
      have a0 : (rNum 18446744073709551615 (b, 0)).2.2 = 0 := rDigs_ok (k := 2 * n) o0
      have en := rNum_ok (rNum_zero a0)
      have hd := num_det (rNum_zero a0)
      rw [en] at o0 e1 e2
      obtain ⟨p1, p2, p3⟩ := rDigs_det o0
      have eo : (rDigs (2 * n) (b.drop (1 + nW b), 0)).2 = ((b.drop (1 + nW b)).drop (32 * (2 * n)), 0) := Prod.ext p3 o0
      simp only [eo] at e1 e2
      obtain ⟨q1, q2, q3⟩ := rDigs_det e1
      refine ⟨?_, Nat.lt_of_not_le h2, by simp, by simp⟩
      rw [en]
      simp only [eo]
      rw [q3, List.length_drop] at e2
      rw [encK, p2, q2, List.append_assoc, List.take_of_length_le (l := (b.drop (1 + nW b)).drop (32 * (2 * n))) (by omega), List.take_append_drop, show (max (((nV b).toNat : Nat) : Int) 0).toNat = (nV b).toNat by omega]
      exact hd
/-- a signature is read as it was -/
theorem decK_enc {n h i : Nat} {L P : List Bs} (hi : i < 2 ^ h) (hh : h ≤ 6) (hL : Dg L) (hP : Dg P) (hl : L.length = 2 * n) (hp : P.length = h) : decK n h (encK i L P) = ((i, L, P), 0) := by
  have h64 : 2 ^ h ≤ 2 ^ 6 := Nat.pow_le_pow_right (by decide) hh
  have ei : (max (i : Int) 0).toNat = i := by omega
  have en := num_back (n := i) (by omega) (most := 18446744073709551615) (by omega) (L.flatten ++ P.flatten)
  have eo := rDigs_back hL P.flatten (k := 2 * n) (by omega)
  have ep := rDigs_back hP [] (k := h) (by omega)
  rw [← hl, List.take_length, List.drop_length, List.flatten_nil, List.nil_append, hl] at eo
  rw [← hp, List.take_length, List.drop_length, List.flatten_nil, List.append_nil, List.append_nil, hp] at ep
  have et : (BitVec.ofNat 64 i).toNat = i := by rw [BitVec.toNat_ofNat]; omega
  rw [encK, ei, List.append_assoc, decK, en]
  simp only [eo, ep]
  rw [rEnd_ok (by simp), if_neg (by simp), et, if_neg (by omega)]
end Go.Proofs.YtipjpbfledddaaaDoor
