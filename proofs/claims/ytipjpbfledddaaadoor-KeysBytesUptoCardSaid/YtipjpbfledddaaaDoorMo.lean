/- Plain laws of layer 5: one-time signatures. -/
import Derived.Test.YtipjpbfledddaaaDoorMx
import Derived.Test.YtipjpbfledddaaaDoorMf
namespace Go.Proofs.YtipjpbfledddaaaDoor
open Go
set_option linter.unusedSimpArgs false
/-- one of bytes' bits -/
def bitV (d : Bs) (i : Nat) : Nat := (d.getD (i / 8) 0#8).toNat / 2 ^ (7 - i % 8) % 2
theorem bitV_lt (d : Bs) (i : Nat) : bitV d i < 2 := Nat.mod_lt _ (by decide)
theorem and7 (i : Nat) : i &&& 7 = i % 8 := Nat.and_two_pow_sub_one_eq_mod i 3
/-- a text's sum's bit -/
def btV (text : Bs) (i : Nat) : Nat := bitV (sha text) i
theorem btV_lt (text : Bs) (i : Nat) : btV text i < 2 := bitV_lt _ _
/-- a bit's secret, and its sum -/
def skV (s : Bs) (j : Nat) : Bs := macV s (sBytes ⟨#[111, 116, 115]⟩ ++ [0#8] ++ beB (BitVec.ofInt 64 (j : Int)) 8)
def pkV (s : Bs) (j : Nat) : Bs := sha (skV s j)
@[simp] theorem skV_length (s : Bs) (j : Nat) : (skV s j).length = 32 := by simp [skV, macV, rndB]
@[simp] theorem pkV_length (s : Bs) (j : Nat) : (pkV s j).length = 32 := by simp [pkV]
/-- the first j digests of a public part -/
def pubV (s : Bs) (j : Nat) : List Bs := (List.range j).map (pkV s)
theorem pubV_succ (s : Bs) (j : Nat) : pubV s (j + 1) = pubV s j ++ [pkV s j] := by simp [pubV, List.range_succ]
theorem pubV_two (s : Bs) (i : Nat) : pubV s (2 * (i + 1)) = pubV s (2 * i) ++ [pkV s (2 * i), pkV s (2 * i + 1)] := by
  rw [show 2 * (i + 1) = 2 * i + 1 + 1 by omega, pubV_succ, pubV_succ, List.append_assoc]; rfl
@[simp] theorem pubV_length (s : Bs) (j : Nat) : (pubV s j).length = j := by simp [pubV]
theorem pubV_dg (s : Bs) (j : Nat) : Dg (pubV s j) := fun x hx => by
  obtain ⟨i, _, rfl⟩ := List.mem_map.1 hx
  simp
theorem pubV_at (s : Bs) {i j : Nat} (h : i < j) : (pubV s j).getD i [] = pkV s i := by simp [pubV, List.getD, h]
/-- a public part's root -/
def rootO (ls : List Bs) : Bs := sha (2#8 :: ls.flatten)
@[simp] theorem rootO_length (ls : List Bs) : (rootO ls).length = 32 := by simp [rootO]
theorem flat_dg : ∀ {ls : List Bs}, Dg ls → ls.flatten.length = ls.length * 32
  | [], _ => rfl
  | x :: ls, h => by
    have h1 := h x (by simp)
    have h2 := flat_dg (ls := ls) fun y hy => h y (by simp [hy])
    simp only [List.flatten_cons, List.length_append, List.length_cons, h1, h2]
    omega
/-- the message of a root, the first k digests of it -/
def msgO (ls : List Bs) (k : Nat) : Bs := 2#8 :: (ls.take k).flatten
theorem msgO_zero (ls : List Bs) : msgO ls 0 = [2#8] := rfl
theorem msgO_succ (ls : List Bs) {k : Nat} (h : k < ls.length) : msgO ls (k + 1) = msgO ls k ++ ls.getD k [] := by
  rw [msgO, take_snoc (d := []) ls h]; simp [msgO]
theorem msgO_len {ls : List Bs} (hd : Dg ls) {k : Nat} (h : k ≤ ls.length) : (msgO ls k).length = 32 * k + 1 := by
  have := flat_dg (hd.take k)
  rw [List.length_take] at this
  simp only [msgO, List.length_cons]
  omega
theorem msgO_end (ls : List Bs) : sha (msgO ls ls.length) = rootO ls := by rw [msgO, List.take_length]; rfl
/-- a text's signature, of its first i bits -/
def sigV (s text : Bs) : Nat → List Bs
  | 0 => []
  | i + 1 => sigV s text i ++ [skV s (2 * i + btV text i), pkV s (2 * i + (1 - btV text i))]
@[simp] theorem sigV_length (s text : Bs) : ∀ i, (sigV s text i).length = 2 * i
  | 0 => rfl
  | i + 1 => by simp [sigV, sigV_length s text i]; omega
theorem sigV_dg (s text : Bs) : ∀ i, Dg (sigV s text i)
  | 0 => Dg.nil
  | i + 1 => (sigV_dg s text i).append (Dg.two (by simp) (by simp))
/-- the public part to which a signature leads, of its first i bits -/
def recV (text : Bs) (sig : List Bs) : Nat → List Bs
  | 0 => []
  | i + 1 => recV text sig i ++ (if btV text i = 0 then [sha (sig.getD (2 * i) []), sig.getD (2 * i + 1) []] else [sig.getD (2 * i + 1) [], sha (sig.getD (2 * i) [])])
@[simp] theorem recV_length (text : Bs) (sig : List Bs) : ∀ i, (recV text sig i).length = 2 * i
  | 0 => rfl
  | i + 1 => by
    rw [recV, List.length_append, recV_length text sig i]
    split <;> simp <;> omega
theorem recV_dg (text : Bs) {sig : List Bs} (hd : Dg sig) : ∀ {i : Nat}, 2 * i ≤ sig.length → Dg (recV text sig i)
  | 0, _ => Dg.nil
  | i + 1, h => by
    have h1 := hd.getD (i := 2 * i + 1) (by omega)
    rw [recV]
    refine (recV_dg text hd (by omega)).append ?_
    split
    · exact Dg.two (by simp) h1
    · exact Dg.two h1 (by simp)
theorem recV_z {text : Bs} {sig : List Bs} {i : Nat} (h : btV text i = 0) : recV text sig (i + 1) = recV text sig i ++ [sha (sig.getD (2 * i) []), sig.getD (2 * i + 1) []] := by rw [recV, if_pos h]
theorem recV_o {text : Bs} {sig : List Bs} {i : Nat} (h : ¬ btV text i = 0) : recV text sig (i + 1) = recV text sig i ++ [sig.getD (2 * i + 1) [], sha (sig.getD (2 * i) [])] := by rw [recV, if_neg h]
/-- a copy of the signature, its first i pairs turned -/
def recTo (text : Bs) (sig : List Bs) (i : Nat) : List Bs := recV text sig i ++ sig.drop (2 * i)
theorem recTo_zero (text : Bs) (sig : List Bs) : recTo text sig 0 = sig := by simp [recTo, recV]
theorem recTo_len (text : Bs) (sig : List Bs) {i : Nat} (h : 2 * i ≤ sig.length) : (recTo text sig i).length = sig.length := by simp [recTo]; omega
theorem recTo_dg (text : Bs) {sig : List Bs} (hd : Dg sig) {i : Nat} (h : 2 * i ≤ sig.length) : Dg (recTo text sig i) := (recV_dg text hd h).append (hd.drop _)
theorem recTo_end (text : Bs) (sig : List Bs) {n : Nat} (h : sig.length = 2 * n) : recTo text sig n = recV text sig n := by rw [recTo, ← h, List.drop_length, List.append_nil]
theorem recTo_succ (text : Bs) (sig : List Bs) {i : Nat} (h : 2 * i + 1 < sig.length) :
    ((recTo text sig i).set (2 * i + btV text i) (sha (sig.getD (2 * i) []))).set (2 * i + 1 - btV text i) (sig.getD (2 * i + 1) []) = recTo text sig (i + 1) := by
  have hb := btV_lt text i
  have hl := recV_length text sig i
  have e : sig.drop (2 * i) = sig.getD (2 * i) [] :: sig.getD (2 * i + 1) [] :: sig.drop (2 * (i + 1)) := by
    rw [List.drop_eq_getElem_cons (by omega), List.drop_eq_getElem_cons (by omega), show 2 * i + 1 + 1 = 2 * (i + 1) by omega]
    simp [List.getD, show 2 * i < sig.length by omega, h]
  unfold recTo
  rw [e]
  by_cases h0 : btV text i = 0
  · rw [h0, recV_z h0, List.set_append_right _ _ (by omega), List.set_append_right _ _ (by omega), hl, show 2 * i + 0 - 2 * i = 0 by omega, show 2 * i + 1 - 0 - 2 * i = 1 by omega]
    simp
  · have h1 : btV text i = 1 := by omega
    rw [h1, recV_o h0, List.set_append_right _ _ (by omega), List.set_append_right _ _ (by omega), hl, show 2 * i + 1 - 2 * i = 1 by omega, show 2 * i + 1 - 1 - 2 * i = 0 by omega]
    simp
/-- what is signed leads to the public part -/
theorem sigV_at (s text : Bs) {i : Nat} : ∀ {n : Nat}, i < n → (sigV s text n).getD (2 * i) [] = skV s (2 * i + btV text i) ∧ (sigV s text n).getD (2 * i + 1) [] = pkV s (2 * i + (1 - btV text i))
  | 0, h => by omega
  | n + 1, h => by
    rw [sigV]
    by_cases hi : i < n
    · have := sigV_at s text hi
      rw [← this.1, ← this.2]
      constructor <;> simp [List.getD, List.getElem?_append, show 2 * i < 2 * n by omega, show 2 * i + 1 < 2 * n by omega]
    · obtain rfl : i = n := by omega
      constructor <;> simp [List.getD, List.getElem?_append]
theorem rec_sig (s text : Bs) {n : Nat} : ∀ {i : Nat}, i ≤ n → recV text (sigV s text n) i = pubV s (2 * i)
  | 0, _ => rfl
  | i + 1, h => by
    obtain ⟨h1, h2⟩ := sigV_at s text (i := i) (n := n) (by omega)
    have hb := btV_lt text i
    rw [pubV_two, recV, rec_sig s text (by omega), h1, h2]
    by_cases h0 : btV text i = 0
    · rw [if_pos h0, h0]; rfl
    · have h3 : btV text i = 1 := by omega
      rw [if_neg h0, h3]; rfl
theorem sigV_same (s : Bs) {p q : Bs} {n : Nat} (h : ∀ i, i < n → btV p i = btV q i) : ∀ {i : Nat}, i ≤ n → sigV s p i = sigV s q i
  | 0, _ => rfl
  | i + 1, hi => by rw [sigV, sigV, sigV_same s h (by omega), h i (by omega)]
/-- may there be so many bits? -/
def R5 (n : Int) : Prop := 1 ≤ n ∧ n ≤ 256
instance (n : Int) : Decidable (R5 n) := inferInstanceAs (Decidable (_ ∧ _))
def pubT (s : Bs) (n : Int) : List Bs × Nat := if R5 n then (pubV s (2 * n.toNat), 0) else ([], 1)
def sigT (s : Bs) (n : Int) (text : Bs) : List Bs × Nat := if R5 n then (sigV s text n.toNat, 0) else ([], 1)
def recT (n : Int) (text : Bs) (sig : List Bs) : Bs × Nat := if R5 n then (if sig.length = 2 * n.toNat then (rootO (recV text sig n.toNat), 0) else (List.replicate 32 0#8, 41)) else (List.replicate 32 0#8, 1)
theorem pubT_ok {n : Nat} (h : R5 n) (s : Bs) : pubT s n = (pubV s (2 * n), 0) := by rw [pubT, if_pos h]; rfl
theorem pubT_bad {n : Int} (h : ¬ R5 n) (s : Bs) : pubT s n = ([], 1) := by rw [pubT, if_neg h]
theorem sigT_ok {n : Nat} (h : R5 n) (s text : Bs) : sigT s n text = (sigV s text n, 0) := by rw [sigT, if_pos h]; rfl
theorem sigT_bad {n : Int} (h : ¬ R5 n) (s text : Bs) : sigT s n text = ([], 1) := by rw [sigT, if_neg h]
theorem recT_ok {n : Nat} (h : R5 n) (text : Bs) {sig : List Bs} (hl : sig.length = 2 * n) : recT n text sig = (rootO (recV text sig n), 0) := by rw [recT, if_pos h, if_pos (by simpa using hl)]; rfl
theorem recT_form {n : Nat} (h : R5 n) (text : Bs) {sig : List Bs} (hl : ¬ sig.length = 2 * n) : recT n text sig = (List.replicate 32 0#8, 41) := by rw [recT, if_pos h, if_neg (by simpa using hl)]
theorem recT_bad {n : Int} (h : ¬ R5 n) (text : Bs) (sig : List Bs) : recT n text sig = (List.replicate 32 0#8, 1) := by rw [recT, if_neg h]
theorem pubT_dg (s : Bs) (n : Int) : Dg (pubT s n).1 := by
  rw [pubT]; split
  · exact pubV_dg _ _
  · exact Dg.nil
theorem sigT_dg (s : Bs) (n : Int) (text : Bs) : Dg (sigT s n text).1 := by
  rw [sigT]; split
  · exact sigV_dg _ _ _
  · exact Dg.nil
theorem pubT_len (s : Bs) (n : Int) : (pubT s n).1.length ≤ 512 := by
  rw [pubT]; split
  · rename_i h; have := h.2; have := h.1; simp; omega
  · simp
theorem sigT_len (s : Bs) (n : Int) (text : Bs) : (sigT s n text).1.length ≤ 512 := by
  rw [sigT]; split
  · rename_i h; have := h.2; have := h.1; simp; omega
  · simp
theorem recT_length (n : Int) (text : Bs) (sig : List Bs) : (recT n text sig).1.length = 32 := by
  rw [recT]; split
  · split <;> simp
  · simp
theorem bit_prog (x : BitVec 8) (n : Nat) : (x >>> n).toNat &&& 1 = x.toNat / 2 ^ n % 2 := by rw [and1, BitVec.toNat_ushiftRight, Nat.shiftRight_eq_div_pow]
/-- the bits that are chosen, the first i of them -/
def chTo (text : Bs) (n i : Nat) : List Nat := (List.range i).map (btV text) ++ List.replicate (n - i) 0
theorem chTo_len (text : Bs) {n i : Nat} (h : i ≤ n) : (chTo text n i).length = n := by simp [chTo]; omega
theorem chTo_set (text : Bs) {n i : Nat} (h : i < n) : (chTo text n i).set i (btV text i) = chTo text n (i + 1) := by
  have e : n - i = (n - (i + 1)) + 1 := by omega
  rw [chTo, List.set_append_right _ _ (by simp), e, List.replicate_succ]
  simp [chTo, List.range_succ]
theorem chTo_end (text : Bs) (n : Nat) : chTo text n n = (List.range n).map (btV text) := by simp [chTo]
theorem ch_at (text : Bs) {n i : Nat} (h : i < n) : ((List.range n).map (btV text)).getD i 0 = btV text i := by simp [List.getD, h]
/-- what is signed is verified by the root of the public part -/
theorem rec_back {n : Int} (h : R5 n) (s text : Bs) : recT n text (sigT s n text).1 = (rootO (pubT s n).1, 0) := by
  obtain ⟨m, rfl⟩ : ∃ m : Nat, n = m := ⟨n.toNat, by have := h.1; omega⟩
  rw [sigT_ok h, pubT_ok h, recT_ok h _ (sigV_length _ _ _), rec_sig s text (Nat.le_refl m)]
end Go.Proofs.YtipjpbfledddaaaDoor
