/- Plain laws of layer 4: numbers, texts, readers. -/
import Derived.Test.YtipjpbfledddaaaDoorMx
namespace Go.Proofs.YtipjpbfledddaaaDoor
open Go
set_option linter.unusedSimpArgs false
/-- as many bytes as a number has -/
def wd (n : Nat) : Nat := if n = 0 then 0 else n.log2 / 8 + 1
theorem wd_le {n : Nat} (h : n < 18446744073709551616) : wd n ≤ 8 := by
  rw [wd]; split
  · omega
  · rename_i h0
    have : n.log2 < 64 := (Nat.log2_lt h0).2 (by simpa using h)
    omega
theorem p8 (w : Nat) : 2 ^ (8 * w) = 256 ^ w := by rw [Nat.pow_mul]
theorem wd_lt (n : Nat) : n < 256 ^ wd n := by
  rw [wd]; split
  · rename_i h; subst h; decide
  · rename_i h0
    rw [← p8]
    exact Nat.lt_of_lt_of_le ((Nat.log2_lt h0).1 (Nat.lt_succ_self _)) (Nat.pow_le_pow_right (by decide) (by omega))
theorem wd_ge {n : Nat} (h0 : n ≠ 0) : 256 ^ (wd n - 1) ≤ n := by
  rw [wd, if_neg h0, ← p8]
  exact Nat.le_trans (Nat.pow_le_pow_right (by decide) (by omega)) (Nat.log2_self_le h0)
theorem wd_unique {n w : Nat} (h1 : n < 256 ^ w) (h2 : w = 0 ∨ 256 ^ (w - 1) ≤ n) : w = wd n := by
  by_cases h0 : n = 0
  · subst h0
    rcases h2 with h2 | h2
    · rw [h2]; rfl
    · have := Nat.pow_pos (n := w - 1) (show 0 < 256 by decide); omega
  · have a1 := wd_lt n
    have a2 := wd_ge h0
    have b1 : wd n - 1 < w := (Nat.pow_lt_pow_iff_right (a := 256) (by decide)).1 (by omega)
    have b2 : 0 < wd n := by rw [wd, if_neg h0]; omega
    rcases h2 with h2 | h2
    · subst h2; omega
    · have b3 : w - 1 < wd n := (Nat.pow_lt_pow_iff_right (a := 256) (by decide)).1 (by omega)
      omega
/-- a number's bytes -/
def wnum (n : Nat) : Bs := BitVec.ofNat 8 (wd n) :: beB (BitVec.ofNat 64 n) (wd n)
@[simp] theorem wnum_length (n : Nat) : (wnum n).length = wd n + 1 := by simp [wnum, beB_length]
/-- a text's bytes -/
def wtext (l : Bs) : Bs := wnum l.length ++ l
@[simp] theorem wtext_length (l : Bs) : (wtext l).length = wd l.length + 1 + l.length := by simp [wtext]

/-! ### bytes and the numbers that they are -/
theorem low_toNat (n : BitVec 64) (k : Nat) : (lowB (n >>> k)).toNat = n.toNat / 2 ^ k % 256 := by
  simp [lowB, BitVec.toNat_setWidth, BitVec.toNat_ushiftRight, Nat.shiftRight_eq_div_pow]
theorem num_cons (c : BitVec 8) (l : Bs) (h : l.length < 8) : (num (c :: l)).toNat = c.toNat * 256 ^ l.length + (num l).toNat := by
  have e : ∀ (l : Bs) (a : Nat), l.foldl (fun n c => n * 256 + c.toNat) a = a * 256 ^ l.length + l.foldl (fun n c => n * 256 + c.toNat) 0 := by
    intro l
    induction l with
    | nil => intro a; simp
    | cons x r ih =>
      intro a
      simp only [List.foldl_cons, List.length_cons]
      rw [ih (a * 256 + x.toNat), ih (0 * 256 + x.toNat), Nat.add_mul, Nat.pow_succ, Nat.zero_mul, Nat.zero_add, Nat.add_assoc, Nat.mul_assoc, Nat.mul_comm 256]
  rw [(num_lt (c :: l) (by simp; omega)).2, (num_lt l (by omega)).2, List.foldl_cons, e]
  simp
theorem num_beB (n : BitVec 64) : ∀ {k : Nat}, k ≤ 8 → (num (beB n k)).toNat = n.toNat % 256 ^ k
  | 0, _ => by simp [beB, num, Nat.mod_one]
  | k + 1, h => by
    rw [beB, num_cons _ _ (by rw [beB_length]; omega), beB_length, num_beB n (by omega), low_toNat, p8, Nat.pow_succ, Nat.mod_mul]
    rw [Nat.mul_comm, Nat.add_comm]
theorem beB_num : ∀ {l : Bs}, l.length ≤ 8 → ∀ {n : BitVec 64}, n.toNat % 256 ^ l.length = (num l).toNat → beB n l.length = l
  | [], _, _, _ => rfl
  | c :: l, h, n, hn => by
    simp only [List.length_cons] at h hn ⊢
    have hc := num_cons c l (by omega)
    have hl := (num_lt l (by omega)).1
    have hp := Nat.pow_pos (n := l.length) (show 0 < 256 by decide)
    have hcl := c.isLt
    rw [hc, Nat.pow_succ, Nat.mod_mul] at hn
    have e1 : n.toNat % 256 ^ l.length = (num l).toNat := by
      have h2 := congrArg (· % 256 ^ l.length) hn
      simp only [Nat.add_mul_mod_self_left, Nat.mod_mod] at h2
      rw [h2, Nat.add_comm, Nat.add_mul_mod_self_right, Nat.mod_eq_of_lt hl]
    have e2 : n.toNat / 256 ^ l.length % 256 = c.toNat := by
      rw [e1, Nat.add_comm] at hn
      have h3 := Nat.add_right_cancel hn
      rw [Nat.mul_comm] at h3
      exact Nat.eq_of_mul_eq_mul_right hp h3
    rw [beB, beB_num (by omega) e1]
    congr 1
    apply BitVec.eq_of_toNat_eq
    rw [low_toNat, p8, e2]
theorem num_inj {a b : Bs} (ha : a.length ≤ 8) (hl : a.length = b.length) (h : num a = num b) : a = b := by
  have h1 := beB_num ha (n := num a) (Nat.mod_eq_of_lt (num_lt a ha).1)
  have h2 := beB_num (l := b) (by omega) (n := num b) (Nat.mod_eq_of_lt (num_lt b (by omega)).1)
  rw [← h1, ← h2, hl, h]

/-! ### readers -/
/-- what is left, and the error -/
abbrev RS := Bs × Nat
/-- how wide a number is at the beginning -/
def nW (X : Bs) : Nat := (X.getD 0 0#8).toNat
def nV (X : Bs) : BitVec 64 := num ((X.drop 1).take (nW X))
/-- why there is no number at the beginning; 0: there is one -/
def nE (most : Nat) (X : Bs) : Nat :=
  if X.length = 0 then 40 else if 8 < nW X then 41 else if X.length - 1 < nW X then 40 else if 0 < nW X ∧ X.getD 1 0#8 = 0#8 then 41 else if most < (nV X).toNat then 42 else 0
def rNum (most : Nat) (s : RS) : BitVec 64 × RS := if s.2 ≠ 0 then (0#64, s) else if nE most s.1 = 0 then (nV s.1, s.1.drop (1 + nW s.1), 0) else (0#64, s.1, nE most s.1)
theorem rNum_off {most : Nat} {X : Bs} {e : Nat} (h : e ≠ 0) : rNum most (X, e) = (0#64, X, e) := by simp [rNum, h]
theorem rNum_err {most : Nat} {X : Bs} {c : Nat} (h : nE most X = c) (hc : c ≠ 0) : rNum most (X, 0) = (0#64, X, c) := by subst h; simp [rNum, hc]
theorem rNum_ok {most : Nat} {X : Bs} (h : nE most X = 0) : rNum most (X, 0) = (nV X, X.drop (1 + nW X), 0) := by simp [rNum, h]
theorem nE_0 {most : Nat} {X : Bs} (h : X.length = 0) : nE most X = 40 := by simp [nE, h]
theorem nE_1 {most : Nat} {X : Bs} (h : ¬ X.length = 0) (h1 : 8 < nW X) : nE most X = 41 := by simp [nE, h, h1]
theorem nE_2 {most : Nat} {X : Bs} (h : ¬ X.length = 0) (h1 : ¬ 8 < nW X) (h2 : X.length - 1 < nW X) : nE most X = 40 := by simp [nE, h, h1, h2]
theorem nE_3 {most : Nat} {X : Bs} (h : ¬ X.length = 0) (h1 : ¬ 8 < nW X) (h2 : ¬ X.length - 1 < nW X) (h3 : 0 < nW X ∧ X.getD 1 0#8 = 0#8) : nE most X = 41 := by
  rw [nE, if_neg h, if_neg h1, if_neg h2, if_pos h3]
theorem nE_4 {most : Nat} {X : Bs} (h : ¬ X.length = 0) (h1 : ¬ 8 < nW X) (h2 : ¬ X.length - 1 < nW X) (h3 : ¬ (0 < nW X ∧ X.getD 1 0#8 = 0#8)) (h4 : most < (nV X).toNat) : nE most X = 42 := by
  rw [nE, if_neg h, if_neg h1, if_neg h2, if_neg h3, if_pos h4]
theorem nE_5 {most : Nat} {X : Bs} (h : ¬ X.length = 0) (h1 : ¬ 8 < nW X) (h2 : ¬ X.length - 1 < nW X) (h3 : ¬ (0 < nW X ∧ X.getD 1 0#8 = 0#8)) (h4 : ¬ most < (nV X).toNat) : nE most X = 0 := by
  rw [nE, if_neg h, if_neg h1, if_neg h2, if_neg h3, if_neg h4]
theorem nE_zero {most : Nat} {X : Bs} (h : nE most X = 0) : ¬ X.length = 0 ∧ nW X ≤ 8 ∧ nW X + 1 ≤ X.length ∧ ¬ (0 < nW X ∧ X.getD 1 0#8 = 0#8) ∧ (nV X).toNat ≤ most := by
  simp only [nE] at h
  split at h
  · omega
  · split at h
    · omega
    · split at h
      · omega
      · split at h
        · omega
        · split at h
          · omega
          · rename_i h0 h1 h2 h3 h4
            exact ⟨h0, by omega, by omega, h3, by omega⟩
def rDig (s : RS) : Bs × RS := if s.2 ≠ 0 then (List.replicate 32 0#8, s) else if s.1.length < 32 then (List.replicate 32 0#8, s.1, 40) else (s.1.take 32, s.1.drop 32, 0)
theorem rDig_off {X : Bs} {e : Nat} (h : e ≠ 0) : rDig (X, e) = (List.replicate 32 0#8, X, e) := by simp [rDig, h]
theorem rDig_err {X : Bs} (h : X.length < 32) : rDig (X, 0) = (List.replicate 32 0#8, X, 40) := by simp [rDig, h]
theorem rDig_ok {X : Bs} (h : ¬ X.length < 32) : rDig (X, 0) = (X.take 32, X.drop 32, 0) := by simp [rDig, h]
theorem rDig_length (s : RS) : (rDig s).1.length = 32 := by
  rw [rDig]; split
  · simp
  · split
    · simp
    · rw [List.length_take]; omega
def rEnd (s : RS) : Nat × RS := if s.2 = 0 ∧ 0 < s.1.length then (43, s.1, 43) else (s.2, s)
/-- a text -/
def rText (most : Int) (s : RS) : Bs × RS :=
  if (rNum 18446744073709551615 s).2.2 ≠ 0 then ([], (rNum 18446744073709551615 s).2)
  else if most < 0 ∨ most < (rNum 18446744073709551615 s).1.toNat then ([], s.1, 42)
  else if (rNum 18446744073709551615 s).2.1.length < (rNum 18446744073709551615 s).1.toNat then ([], s.1, 40)
  else ((rNum 18446744073709551615 s).2.1.take (rNum 18446744073709551615 s).1.toNat, (rNum 18446744073709551615 s).2.1.drop (rNum 18446744073709551615 s).1.toNat, 0)
/-- a number's bytes are the number again -/
theorem num_back {n : Nat} (h : n < 18446744073709551616) {most : Nat} (hm : n ≤ most) (Y : Bs) : rNum most (wnum n ++ Y, 0) = (BitVec.ofNat 64 n, Y, 0) := by
  have h8 := wd_le h
  have hw : nW (wnum n ++ Y) = wd n := by
    show (BitVec.ofNat 8 (wd n)).toNat = wd n
    rw [BitVec.toNat_ofNat]; exact Nat.mod_eq_of_lt (by omega)
  have hv : nV (wnum n ++ Y) = BitVec.ofNat 64 n := by
    have e : ((wnum n ++ Y).drop 1).take (wd n) = beB (BitVec.ofNat 64 n) (wd n) := by
      show (beB (BitVec.ofNat 64 n) (wd n) ++ Y).take (wd n) = _
      rw [List.take_append_of_le_length (by rw [beB_length]; exact Nat.le_refl _), List.take_of_length_le (by rw [beB_length]; exact Nat.le_refl _)]
    rw [nV, hw, e]
    apply BitVec.eq_of_toNat_eq
    rw [num_beB _ h8, BitVec.toNat_ofNat, Nat.mod_eq_of_lt h, Nat.mod_eq_of_lt (wd_lt n)]
  have he : nE most (wnum n ++ Y) = 0 := by
    apply nE_5
    · simp
    · rw [hw]; omega
    · rw [hw]; simp
    · rw [hw]
      rintro ⟨h0, h1⟩
      have h2 : (wnum n ++ Y).getD 1 0#8 = lowB (BitVec.ofNat 64 n >>> (8 * (wd n - 1))) := by
        obtain ⟨k, hk⟩ : ∃ k, wd n = k + 1 := ⟨wd n - 1, by omega⟩
        show (beB (BitVec.ofNat 64 n) (wd n) ++ Y).getD 0 0#8 = _
        rw [hk]; rfl
      rw [h2] at h1
      have h3 := congrArg BitVec.toNat h1
      rw [low_toNat, BitVec.toNat_ofNat, Nat.mod_eq_of_lt h, p8] at h3
      have n0 : n ≠ 0 := fun e => by rw [e, wd] at h0; simp at h0
      have g1 := wd_ge n0
      have g2 := wd_lt n
      have g3 : 256 ^ wd n = 256 ^ (wd n - 1) * 256 := by rw [← Nat.pow_succ]; congr 1; omega
      have hp := Nat.pow_pos (n := wd n - 1) (show 0 < 256 by decide)
      have g4 : n / 256 ^ (wd n - 1) < 256 := Nat.div_lt_of_lt_mul (by rw [← g3]; exact g2)
      have g5 : 0 < n / 256 ^ (wd n - 1) := Nat.div_pos g1 hp
      have h4 : n / 256 ^ (wd n - 1) % 256 = 0 := h3
      omega
    · rw [hv, BitVec.toNat_ofNat, Nat.mod_eq_of_lt h]; omega
  rw [rNum_ok he, hv, hw]
  have e : (wnum n ++ Y).drop (1 + wd n) = Y := by
    rw [Nat.add_comm]
    show (beB (BitVec.ofNat 64 n) (wd n) ++ Y).drop (wd n) = Y
    exact List.drop_left' (beB_length _ _)
  rw [e]
/-- what is read as a number has just its bytes -/
theorem num_det {most : Nat} {X : Bs} (h : nE most X = 0) : X = wnum (nV X).toNat ++ X.drop (1 + nW X) := by
  obtain ⟨h0, h1, h2, h3, h4⟩ := nE_zero h
  obtain ⟨c, T, rfl⟩ : ∃ c T, X = c :: T := by
    match X, h0 with
    | c :: T, _ => exact ⟨c, T, rfl⟩
  have hw : nW (c :: T) = c.toNat := rfl
  have hv : nV (c :: T) = num (T.take c.toNat) := rfl
  rw [hw] at h1 h2 h3
  simp only [List.length_cons] at h2
  have hl : (T.take c.toNat).length = c.toNat := by rw [List.length_take]; omega
  have hlt := num_lt (T.take c.toNat) (by omega)
  rw [hl] at hlt
  have hwd : c.toNat = wd (nV (c :: T)).toNat := by
    rw [hv]
    refine wd_unique hlt.1 ?_
    by_cases hc : c.toNat = 0
    · exact .inl hc
    · right
      obtain ⟨d, U, rfl⟩ : ∃ d U, T = d :: U := by
        match T, (by omega : 0 < T.length) with
        | d :: U, _ => exact ⟨d, U, rfl⟩
      obtain ⟨k, hk⟩ : ∃ k, c.toNat = k + 1 := ⟨c.toNat - 1, by omega⟩
      have hd : d ≠ 0#8 := fun e => h3 ⟨by omega, e⟩
      have hd2 : 0 < d.toNat := Nat.pos_of_ne_zero fun e => hd (BitVec.eq_of_toNat_eq e)
      have hUl : (U.take k).length = k := by rw [List.length_take]; simp only [List.length_cons] at h2; omega
      rw [hk, List.take_succ_cons, num_cons _ _ (by omega), hUl, Nat.add_sub_cancel]
      have := Nat.le_mul_of_pos_left (256 ^ k) hd2
      omega
  have hb : beB (BitVec.ofNat 64 (nV (c :: T)).toNat) c.toNat = T.take c.toNat := by
    have h5 := beB_num (l := T.take c.toNat) (by omega) (n := nV (c :: T)) (by rw [hl, hv]; exact Nat.mod_eq_of_lt hlt.1)
    rw [hl] at h5
    rw [BitVec.ofNat_toNat, BitVec.setWidth_eq]
    exact h5
  rw [wnum, ← hwd, hb, hw, Nat.add_comm 1]
  show c :: T = BitVec.ofNat 8 c.toNat :: (T.take c.toNat ++ T.drop c.toNat)
  rw [List.take_append_drop]
  congr 1
  simp
/-! ### what the walks ask -/
theorem shr_ge {n : BitVec 64} {k : Nat} (h : 0 < (n >>> (8 * k)).toNat) : 256 ^ k ≤ n.toNat := by
  rw [BitVec.toNat_ushiftRight, Nat.shiftRight_eq_div_pow, p8] at h
  rcases Nat.lt_or_ge n.toNat (256 ^ k) with h2 | h2
  · rw [Nat.div_eq_of_lt h2] at h; omega
  · exact h2
theorem shr_lt {n : BitVec 64} {k : Nat} (h : ¬ 0 < (n >>> (8 * k)).toNat) : n.toNat < 256 ^ k := by
  rw [BitVec.toNat_ushiftRight, Nat.shiftRight_eq_div_pow, p8] at h
  rcases Nat.lt_or_ge n.toNat (256 ^ k) with h2 | h2
  · exact h2
  · exact absurd (Nat.div_pos h2 (Nat.pow_pos (by decide))) h
theorem ne0_pos {x : BitVec 64} (h : x ≠ 0#64) : 0 < x.toNat := Nat.pos_of_ne_zero fun e => h (BitVec.eq_of_toNat_eq e)
theorem eq0_pos {x : BitVec 64} (h : ¬ x ≠ 0#64) : ¬ 0 < x.toNat := by
  have : x = 0#64 := Classical.byContradiction h
  rw [this]; decide
theorem pow8_lt {n : BitVec 64} {k : Nat} (h : 256 ^ k ≤ n.toNat) : k < 8 := by
  have h1 := n.isLt
  exact (Nat.pow_lt_pow_iff_right (a := 256) (by decide)).1 (Nat.lt_of_le_of_lt h h1)
theorem wnum_eq {n : BitVec 64} {k : Nat} (h : k = wd n.toNat) : [BitVec.ofInt 8 (k : Int)] ++ beB n k = wnum n.toNat := by
  rw [wnum, ← h, BitVec.ofInt_natCast, BitVec.ofNat_toNat, BitVec.setWidth_eq]; rfl
theorem sw64 (p : BitVec 8) : (p.setWidth 64).toNat = p.toNat := by
  have := p.isLt
  rw [BitVec.toNat_setWidth, Nat.mod_eq_of_lt (by omega)]
/-- what is taken of l from k on, and where that ends -/
def takeL (l : Bs) (k n : Nat) : Bs := if n ≤ l.length - k then (l.drop k).take n else []
def takeA (l : Bs) (k n : Nat) : Nat := if n ≤ l.length - k then k + n else k
theorem takeL_ok {l : Bs} {k n : Nat} (h : n ≤ l.length - k) : takeL l k n = (l.drop k).take n := if_pos h
theorem takeA_ok {l : Bs} {k n : Nat} (h : n ≤ l.length - k) : takeA l k n = k + n := if_pos h
theorem takeL_no {l : Bs} {k n : Nat} (h : ¬ n ≤ l.length - k) : takeL l k n = [] := if_neg h
theorem takeA_no {l : Bs} {k n : Nat} (h : ¬ n ≤ l.length - k) : takeA l k n = k := if_neg h
theorem takeA_le {l : Bs} {k n : Nat} (hk : k ≤ l.length) : takeA l k n ≤ l.length := by
  rw [takeA]; split <;> omega
theorem take1_at (X : Bs) : (X.take 1).getD 0 0#8 = X.getD 0 0#8 := by cases X <;> rfl
theorem By.cut {M : List Nat} {w : World} {v : Value} {l : Bs} (h : By M w v l) (lo hi : Nat) (h1 : lo ≤ hi) (h2 : hi ≤ l.length) :
    ∃ v', (∀ a c, v = .slice a l.length c → v' = .slice (if c = lo then a else a.map (·.add (lo * 1))) (hi - lo) (c - lo)) ∧ By M w v' ((l.drop lo).take (hi - lo)) := Rm.cut (f := B8) h lo hi h1 h2
/-- a piece of a slice, wherever the slice is read -/
theorem By.piece {v : Value} {l : Bs} {n : Nat} (hs : Shp v l.length) (lo hi : Nat) (h1 : lo ≤ hi) (h2 : hi ≤ l.length) (hn : n = l.length) :
    ∃ v', (∀ a c, v = .slice a n c → v' = .slice (if c = lo then a else a.map (·.add (lo * 1))) (hi - lo) (c - lo)) ∧ ∀ M w, By M w v l → By M w v' ((l.drop lo).take (hi - lo)) := by
  subst hn
  obtain ⟨a, c, rfl, hc, _⟩ := hs
  refine ⟨_, fun a' c' e => by cases e; rfl, fun M w h => ?_⟩
  obtain ⟨v', hv, hb⟩ := By.cut h lo hi h1 h2
  rw [hv a c rfl] at hb
  exact hb
theorem takeD_at {X : Bs} {w : Nat} (h : 0 < w) : ((X.drop 1).take w).getD 0 0#8 = X.getD 1 0#8 := by
  simp [List.getD, h]
theorem dig_copy (Y : Bs) (h : Y.length = 32) : putAt ((List.replicate 32 0#8).map B8) 0 ((Y.map B8).take (min Y.length 32 * 1)) = Y.map B8 := by
  rw [h, List.take_of_length_le (by simp [h]), putAt_eq _ _ _ (by simp [h])]
  simp [h]
theorem rEnd_off {X : Bs} {e : Nat} (h : e ≠ 0) : rEnd (X, e) = (e, X, e) := by simp [rEnd, h]
theorem rEnd_rest {X : Bs} (h : 0 < X.length) : rEnd (X, 0) = (43, X, 43) := by simp [rEnd, h]
theorem rEnd_ok {X : Bs} (h : ¬ 0 < X.length) : rEnd (X, 0) = (0, X, 0) := by simp [rEnd, h]
theorem num_mul (l : Bs) (c : BitVec 8) (q : BitVec 64) (hq : q.toNat = 256) : num l * q + c.setWidth 64 = num (l ++ [c]) := by
  apply BitVec.eq_of_toNat_eq
  have hc := c.isLt
  generalize ha : (num l).toNat = a
  have e1 : a * 256 % 2 ^ 64 = a % 2 ^ 56 * 256 := Nat.mul_mod_mul_right 256 a (2 ^ 56)
  have e2 : a % 2 ^ 56 < 2 ^ 56 := Nat.mod_lt _ (by decide)
  have e3 : a * 2 ^ 8 % 2 ^ 64 = (a % 2 ^ 56) <<< 8 := by rw [Nat.shiftLeft_eq]; exact e1
  rw [num_snoc, BitVec.toNat_add, BitVec.toNat_mul, BitVec.toNat_or, BitVec.toNat_shiftLeft, sw64, hq, ha, Nat.shiftLeft_eq, e3, ← Nat.shiftLeft_add_eq_or_of_lt hc, Nat.shiftLeft_eq, show (2 : Nat) ^ 8 = 256 from rfl]
  generalize a % 2 ^ 56 = b at e2
  have e4 : b * 256 + c.toNat < 2 ^ 56 * 256 := by
    have := Nat.mul_le_mul_right 256 e2
    rw [Nat.succ_mul] at this
    exact Nat.lt_of_lt_of_le (Nat.add_lt_add_left hc _) this
  exact Nat.mod_eq_of_lt (Nat.lt_of_lt_of_le e4 (by decide))
theorem dig_to {X : Bs} {i : Nat} (h : i < X.length) (hi : i < 32) : (X.take i ++ List.replicate (32 - i) 0#8).set i (X.getD i 0#8) = X.take (i + 1) ++ List.replicate (32 - (i + 1)) 0#8 := by
  have hl : (X.take i).length = i := by rw [List.length_take]; omega
  have e : 32 - i = (32 - (i + 1)) + 1 := by omega
  rw [List.set_append_right _ _ (by omega), hl, Nat.sub_self, e, List.replicate_succ, List.set_cons_zero, take_snoc (d := 0#8) X h]
  simp
theorem rText_1 {most : Int} {s : RS} (h : (rNum 18446744073709551615 s).2.2 ≠ 0) : rText most s = ([], (rNum 18446744073709551615 s).2) := by rw [rText, if_pos h]
theorem rText_2 {most : Int} {s : RS} (h : ¬ (rNum 18446744073709551615 s).2.2 ≠ 0) (h2 : most < 0 ∨ most < (rNum 18446744073709551615 s).1.toNat) : rText most s = ([], s.1, 42) := by rw [rText, if_neg h, if_pos h2]
theorem rText_3 {most : Int} {s : RS} (h : ¬ (rNum 18446744073709551615 s).2.2 ≠ 0) (h2 : ¬ (most < 0 ∨ most < (rNum 18446744073709551615 s).1.toNat)) (h3 : (rNum 18446744073709551615 s).2.1.length < (rNum 18446744073709551615 s).1.toNat) : rText most s = ([], s.1, 40) := by
  rw [rText, if_neg h, if_neg h2, if_pos h3]
theorem rText_4 {most : Int} {s : RS} (h : ¬ (rNum 18446744073709551615 s).2.2 ≠ 0) (h2 : ¬ (most < 0 ∨ most < (rNum 18446744073709551615 s).1.toNat)) (h3 : ¬ (rNum 18446744073709551615 s).2.1.length < (rNum 18446744073709551615 s).1.toNat) :
    rText most s = ((rNum 18446744073709551615 s).2.1.take (rNum 18446744073709551615 s).1.toNat, (rNum 18446744073709551615 s).2.1.drop (rNum 18446744073709551615 s).1.toNat, 0) := by
  rw [rText, if_neg h, if_neg h2, if_neg h3]
theorem rNum_len (most : Nat) (s : RS) : (rNum most s).2.1.length ≤ s.1.length := by
  rw [rNum]; split
  · exact Nat.le_refl _
  · split
    · simp
    · exact Nat.le_refl _
theorem rText_len (most : Int) (s : RS) : (rText most s).2.1.length ≤ s.1.length ∧ (rText most s).1.length ≤ s.1.length := by
  have h := rNum_len 18446744073709551615 s
  rw [rText]; split
  · exact ⟨h, by simp⟩
  · split
    · simp
    · split
      · simp
      · simp; omega
theorem toNat_ofIntN {m : Int} (h : 0 ≤ m ∧ m ≤ 9223372036854775807) : ((BitVec.ofInt 64 m).toNat : Nat) = m.toNat := by
  obtain ⟨n, rfl⟩ : ∃ n : Nat, m = n := ⟨m.toNat, by omega⟩
  rw [toNat_ofInt64 (by omega)]; rfl
theorem HS.nil2 {M : List Nat} {w0 w : World} {N : Hl} (h : HS M w0 w [N]) : HS M w0 w [N, []] := h.nilFront.pick [1, 0] rfl
section
variable {α : Type} {f : α → Value}
theorem Rm.cut0 {M : List Nat} {w : World} {v : Value} {l : List α} (h : Rm f M w v l) (hi : Nat) (h2 : hi ≤ l.length) : ∃ v', (∀ a c, v = .slice a l.length c → v' = .slice (if c = 0 then a else a.map (·.add (0 * 1))) (hi - 0) (c - 0)) ∧ Rm f M w v' (l.take hi) := by
  obtain ⟨v', hv, ho⟩ := Rm.cut h 0 hi (Nat.zero_le _) h2
  exact ⟨v', hv, by simpa using ho⟩
theorem Rm.cutE {M : List Nat} {w : World} {v : Value} {l : List α} (h : Rm f M w v l) (lo : Nat) (h2 : lo ≤ l.length) : ∃ v', (∀ a c, v = .slice a l.length c → v' = .slice (if c = lo then a else a.map (·.add (lo * 1))) (l.length - lo) (c - lo)) ∧ Rm f M w v' (l.drop lo) := by
  obtain ⟨v', hv, ho⟩ := Rm.cut h lo l.length h2 (Nat.le_refl _)
  refine ⟨v', hv, ?_⟩
  rwa [List.take_of_length_le (by simp)] at ho
theorem Ow.cut0 {e : Nat} {v : Value} {l : List α} {N : Hl} (h : Ow f e v l N) (hi : Nat) (h2 : hi ≤ l.length) : ∃ v', (∀ a c, v = .slice a l.length c → v' = .slice (if c = 0 then a else a.map (·.add (0 * 1))) (hi - 0) (c - 0)) ∧ Ow f e v' (l.take hi) N := by
  obtain ⟨v', hv, ho⟩ := Ow.cut h 0 hi (Nat.zero_le _) h2
  exact ⟨v', hv, by simpa using ho⟩
theorem Ow.cutE {e : Nat} {v : Value} {l : List α} {N : Hl} (h : Ow f e v l N) (lo : Nat) (h2 : lo ≤ l.length) : ∃ v', (∀ a c, v = .slice a l.length c → v' = .slice (if c = lo then a else a.map (·.add (lo * 1))) (l.length - lo) (c - lo)) ∧ Ow f e v' (l.drop lo) N := by
  obtain ⟨v', hv, ho⟩ := Ow.cut h lo l.length h2 (Nat.le_refl _)
  refine ⟨v', hv, ?_⟩
  rwa [List.take_of_length_le (by simp)] at ho
end
theorem By.piece0 {v : Value} {l : Bs} {n : Nat} (hs : Shp v l.length) (hi : Nat) (h2 : hi ≤ l.length) (hn : n = l.length) :
    ∃ v', (∀ a c, v = .slice a n c → v' = .slice (if c = 0 then a else a.map (·.add (0 * 1))) (hi - 0) (c - 0)) ∧ ∀ M w, By M w v l → By M w v' (l.take hi) := by
  obtain ⟨v', hv, h⟩ := By.piece hs 0 hi (Nat.zero_le _) h2 hn
  exact ⟨v', hv, fun M w hb => by simpa using h M w hb⟩
theorem By.pieceE {v : Value} {l : Bs} {n : Nat} (hs : Shp v l.length) (lo : Nat) (h2 : lo ≤ l.length) (hn : n = l.length) :
    ∃ v', (∀ a c, v = .slice a n c → v' = .slice (if c = lo then a else a.map (·.add (lo * 1))) (l.length - lo) (c - lo)) ∧ ∀ M w, By M w v l → By M w v' (l.drop lo) := by
  obtain ⟨v', hv, h⟩ := By.piece hs lo l.length h2 (Nat.le_refl _) hn
  refine ⟨v', hv, fun M w hb => ?_⟩
  have := h M w hb
  rwa [List.take_of_length_le (by simp)] at this
end Go.Proofs.YtipjpbfledddaaaDoor
