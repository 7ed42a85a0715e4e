/- Keys: a signature's bytes, step by step. -/
import Derived.Test.YtipjpbfledddaaaDoorMn
namespace Go.Proofs.YtipjpbfledddaaaDoor
open Go
set_option linter.unusedSimpArgs false
section
variable {P : Program} {E : Env} {ty t t' : TypeId} {w : World} {x y : Operand} {M : List Nat} {w0 : World} {Hs : List Hl}
/-- a literal of two values -/
theorem lo_build2 {parts : List (Nat × Operand)} {e bb : Nat} {z v1 v2 : Value} (hH : HS M w0 w Hs) (ht : P.underlying t = some (.slice e)) (he : TI P e 1 bb z) (hz : z.cells.size = 1)
    (hp : evs E parts = some [(0, v1), (1, v2)]) (h1 : v1.oneCell' = true) (h2 : v2.oneCell' = true) :
    Lo P E (.buildSlice t 2 parts.toArray) ty w (fun u w' => ∃ N, Own e 1 u 2 [v1, v2] N ∧ HS M w0 w' (N :: Hs)) := by
  refine lo_buildSlice (k := 1) (bb := bb) (z := z) hH hp rfl fun w => ?_
  have c1 := cells_one h1
  have c2 := cells_one h2
  have s1 : v1.cells.size = 1 := by rw [← Array.length_toList, c1]; rfl
  have s2 : v2.cells.size = 1 := by rw [← Array.length_toList, c2]; rfl
  obtain ⟨u0, u1, hu0⟩ : ∃ u0 u1, ((Array.range (2 * 1)).map (z.cells[· % z.cells.size]!)) = [u0, u1].toArray := by
    refine ⟨z.cells[0 % z.cells.size]!, z.cells[1 % z.cells.size]!, ?_⟩
    rw [show Array.range (2 * 1) = #[0, 1] from by decide]
    simp
  have f1 := fill_cons (place := fun i => some (i * 1, 1)) (c := [u0, u1]) (i := 0) (off := 0) (size := 1) (v := v1) (rest := [(1, v2)]) rfl s1 (by simp)
  rw [c1] at f1
  have f2 := fill_cons (place := fun i => some (i * 1, 1)) (c := [v1, u1]) (i := 1) (off := 1) (size := 1) (v := v2) (rest := []) rfl s2 (by simp)
  rw [c2] at f2
  simp only [Instr.buildSlice, Sem.run_bind, run_underlying ht, he.size, he.zero, Result.andThen_ok, Sem.run_pure]
  rw [if_neg (by decide), if_neg (by decide)]
  simp only [Sem.run_bind, Sem.run_pure, he.zero, Result.andThen_ok, hu0]
  rw [f1, show putAt [u0, u1] 0 [v1] = [v1, u1] from rfl, f2]
  simp [Instr.fill, putAt, newRow]
end
theorem max0 (i : Int) : (if i < 0 then (0 : Int) else i) = max i 0 := by
  by_cases h : i < 0
  · rw [if_pos h]; omega
  · rw [if_neg h]; omega
theorem max0_toNat {i : Int} (h : i ≤ 9223372036854775807) : (BitVec.ofInt 64 (max i 0)).toNat = (max i 0).toNat := toNat_ofIntN (by omega)
/-- bytes so far -/
def encTo (W : Bs) (A B : List Bs) : Nat → Bs
  | 0 => W
  | 1 => W ++ A.flatten
  | _ => W ++ A.flatten ++ B.flatten
theorem flatten_len : ∀ {ls : List Bs}, Dg ls → ls.flatten.length = 32 * ls.length
  | [], _ => rfl
  | x :: ls, h => by
    rw [List.flatten_cons, List.length_append, flatten_len (fun y hy => h y (by simp [hy])), h x (by simp), List.length_cons]
    omega
theorem flatten_take {ls : List Bs} {j : Nat} (hj : j < ls.length) : (ls.take (j + 1)).flatten = (ls.take j).flatten ++ ls.getD j [] := by
  rw [take_snoc (d := []) ls hj, List.flatten_append]
  simp
/-- digests that are made -/
theorem OwD.make {e n : Nat} {v : Value} {N : Hl} {z : List Value} (h : Own e 32 v n (List.replicate n z).flatten N) (hz : z = (List.replicate 32 0#8).map B8) : OwD e v (List.replicate n (List.replicate 32 0#8)) N := by
  subst hz
  have e1 : (List.replicate n ((List.replicate 32 0#8).map B8)).flatten = dc (List.replicate n (List.replicate 32 0#8)) := by
    simp only [dc, List.flatMap, List.map_replicate]
  rw [e1] at h
  show Own e 32 v (List.replicate n (List.replicate 32 0#8)).length _ N
  rw [List.length_replicate]
  exact h
theorem Dg.rep (n : Nat) : Dg (List.replicate n (List.replicate 32 0#8)) := fun x hx => by rw [List.eq_of_mem_replicate hx]; simp
theorem encTo_len {W : Bs} {A B : List Bs} (hW : W.length ≤ 9) (hA : Dg A) (hB : Dg B) (i : Nat) : (encTo W A B i).length ≤ 9 + 32 * A.length + 32 * B.length := by
  have h1 := flatten_len hA
  have h2 := flatten_len hB
  match i with
  | 0 => simp only [encTo]; omega
  | 1 => simp only [encTo, List.length_append]; omega
  | _ + 2 => simp only [encTo, List.length_append]; omega
theorem take_flat_len {A : List Bs} (hA : Dg A) (j : Nat) : (A.take j).flatten.length ≤ 32 * A.length := by
  rw [flatten_len (hA.take j), List.length_take]
  omega
theorem encTo_two (i : Int) (A B : List Bs) : encTo (wnum (max i 0).toNat) A B 2 = encK i A B := rfl
/-! ### reading a signature, step by step -/
abbrev Z32 : Bs := List.replicate 32 0#8
def rowTo (m : Nat) (S : RS) (j : Nat) : List Bs := (rDigs j S).1 ++ List.replicate (m - j) Z32
theorem rowTo_zero (m : Nat) (S : RS) : rowTo m S 0 = List.replicate m Z32 := by simp [rowTo, rDigs]
theorem rowTo_end (m : Nat) (S : RS) : rowTo m S m = (rDigs m S).1 := by simp [rowTo]
theorem rowTo_len (m : Nat) (S : RS) {j : Nat} (hj : j ≤ m) : (rowTo m S j).length = m := by simp [rowTo]; omega
theorem rowTo_dg (m : Nat) (S : RS) (j : Nat) : Dg (rowTo m S j) := (rDigs_dg S j).append (Dg.rep _)
theorem rowTo_set (m : Nat) (S : RS) {j : Nat} (hj : j < m) : (rowTo m S j).set j (rDig (rDigs j S).2).1 = rowTo m S (j + 1) := by
  have e : m - j = (m - (j + 1)) + 1 := by omega
  have hl : (rDigs j S).1.length = j := rDigs_length S j
  rw [rowTo, rowTo, e, List.replicate_succ, List.set_append_right _ _ (by omega), hl, Nat.sub_self, List.set_cons_zero]
  show _ = ((rDigs j S).1 ++ [(rDig (rDigs j S).2).1]) ++ _
  rw [List.append_assoc]; rfl
def stD (n h : Nat) (S : RS) : Nat → RS
  | 0 => S
  | 1 => (rDigs (2 * n) S).2
  | _ => (rDigs h (rDigs (2 * n) S).2).2
def rowA (n : Nat) (S : RS) : Nat → List Bs
  | 0 => List.replicate (2 * n) Z32
  | _ => (rDigs (2 * n) S).1
def rowB (n h : Nat) (S : RS) : Nat → List Bs
  | 0 => List.replicate h Z32
  | 1 => List.replicate h Z32
  | _ => (rDigs h (rDigs (2 * n) S).2).1
theorem decK_1 {n h : Nat} {b : Bs} (h1 : (rEnd (stD n h (rNum 18446744073709551615 (b, 0)).2 2)).1 ≠ 0) : decK n h b = ((0, [], []), (rEnd (stD n h (rNum 18446744073709551615 (b, 0)).2 2)).1) := by
  simp only [stD] at h1 ⊢
  rw [decK, if_pos h1]
theorem decK_2 {n h : Nat} {b : Bs} (h1 : ¬ (rEnd (stD n h (rNum 18446744073709551615 (b, 0)).2 2)).1 ≠ 0) (h2 : 2 ^ h ≤ (rNum 18446744073709551615 (b, 0)).1.toNat) : decK n h b = ((0, [], []), 41) := by
  simp only [stD] at h1 ⊢
  rw [decK, if_neg h1, if_pos h2]
theorem decK_3 {n h : Nat} {b : Bs} (h1 : ¬ (rEnd (stD n h (rNum 18446744073709551615 (b, 0)).2 2)).1 ≠ 0) (h2 : ¬ 2 ^ h ≤ (rNum 18446744073709551615 (b, 0)).1.toNat) : decK n h b = (((rNum 18446744073709551615 (b, 0)).1.toNat, rowA n (rNum 18446744073709551615 (b, 0)).2 2, rowB n h (rNum 18446744073709551615 (b, 0)).2 2), 0) := by
  simp only [stD, rowA, rowB] at h1 ⊢
  rw [decK, if_neg h1, if_neg h2]
theorem rDig_less (S : RS) : (rDig S).2.1.length ≤ S.1.length := by
  obtain ⟨X, e⟩ := S
  by_cases h0 : e = 0
  · subst h0
    by_cases h : X.length < 32
    · rw [rDig_err h]; simp
    · rw [rDig_ok h]; simp
  · rw [rDig_off h0]; exact Nat.le_refl _
theorem rDigs_less (S : RS) : ∀ k, (rDigs k S).2.1.length ≤ S.1.length
  | 0 => Nat.le_refl _
  | k + 1 => Nat.le_trans (rDig_less (rDigs k S).2) (rDigs_less S k)
theorem encK_len {i : Int} {A B : List Bs} (hi : i ≤ 9223372036854775807) (hA : Dg A) (hB : Dg B) : (encK i A B).length ≤ 9 + 32 * A.length + 32 * B.length := by
  rw [← encTo_two]
  exact encTo_len (by rw [wnum_length]; have := wd_le (n := (max i 0).toNat) (by omega); omega) hA hB 2
theorem decK_len {n h : Nat} (b : Bs) {D : (Nat × List Bs × List Bs) × Nat} (hD : D = decK n h b) : D.1.1 < 2 ^ h ∧ Dg D.1.2.1 ∧ Dg D.1.2.2 ∧ D.1.2.1.length ≤ 2 * n ∧ D.1.2.2.length ≤ h := by
  have h0 : 0 < 2 ^ h := Nat.pow_pos (by decide)
  subst hD
  by_cases h1 : (rEnd (stD n h (rNum 18446744073709551615 (b, 0)).2 2)).1 ≠ 0
  · rw [decK_1 h1]; exact ⟨h0, Dg.nil, Dg.nil, Nat.zero_le _, Nat.zero_le _⟩
  · by_cases h2 : 2 ^ h ≤ (rNum 18446744073709551615 (b, 0)).1.toNat
    · rw [decK_2 h1 h2]; exact ⟨h0, Dg.nil, Dg.nil, Nat.zero_le _, Nat.zero_le _⟩
    · rw [decK_3 h1 h2]
      exact ⟨by simp only; omega, rDigs_dg _ _, rDigs_dg _ _, Nat.le_of_eq (rDigs_length _ _), Nat.le_of_eq (rDigs_length _ _)⟩
end Go.Proofs.YtipjpbfledddaaaDoor
