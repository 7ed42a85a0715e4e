/- Plain laws of layer 11: frames. -/
import Derived.Test.YthhdilafnfcpbaaDoorMzc
import Derived.Test.YthhdilafnfcpbaaDoorMza
namespace Go.Proofs.YthhdilafnfcpbaaDoor
open Go
set_option linter.unusedSimpArgs false
/-- a record's frame -/
def wf (l : Bs) : Bs := wtext l ++ (sha (wtext l)).take 8
theorem wf_length (l : Bs) : (wf l).length = wd l.length + 9 + l.length := by
  have : (sha (wtext l)).length = 32 := by simp
  simp only [wf, List.length_append, List.length_take, wtext_length, this]
  omega
def wrapV (l : Bs) : Bs × Nat := if 262144 < l.length then ([], 42) else (wf l, 0)
theorem wrapV_ok {l : Bs} (h : ¬ 262144 < l.length) : wrapV l = (wf l, 0) := if_neg h
theorem wrapV_bad {l : Bs} (h : 262144 < l.length) : wrapV l = ([], 42) := if_pos h
/-- the record of a frame at the beginning, and how many bytes it has -/
def frV (X : Bs) : Option (Bs × Nat) :=
  if (rText 262144 (X, 0)).2.2 ≠ 0 ∨ (rText 262144 (X, 0)).2.1.length < 8 then none
  else if (sha (X.take (X.length - (rText 262144 (X, 0)).2.1.length))).take 8 = (rText 262144 (X, 0)).2.1.take 8 then some ((rText 262144 (X, 0)).1, X.length - (rText 262144 (X, 0)).2.1.length + 8) else none
theorem frV_no {X : Bs} (h : (rText 262144 (X, 0)).2.2 ≠ 0 ∨ (rText 262144 (X, 0)).2.1.length < 8) : frV X = none := if_pos h
theorem frV_mac {X : Bs} (h2 : ¬ (sha (X.take (X.length - (rText 262144 (X, 0)).2.1.length))).take 8 = (rText 262144 (X, 0)).2.1.take 8) : frV X = none := by
  rw [frV]; split
  · rfl
  · first | rfl | rw [if_neg h2]
theorem frV_some {X : Bs} (h : ¬ ((rText 262144 (X, 0)).2.2 ≠ 0 ∨ (rText 262144 (X, 0)).2.1.length < 8)) (h2 : (sha (X.take (X.length - (rText 262144 (X, 0)).2.1.length))).take 8 = (rText 262144 (X, 0)).2.1.take 8) :
    frV X = some ((rText 262144 (X, 0)).1, X.length - (rText 262144 (X, 0)).2.1.length + 8) := by rw [frV, if_neg h, if_pos h2]
/-- a text's bytes are the text again -/
theorem text_back {l : Bs} {most : Int} (hl : (l.length : Int) ≤ most) (h9 : l.length < 18446744073709551616) (Y : Bs) : rText most (wtext l ++ Y, 0) = (l, Y, 0) := by
  have h := num_back (n := l.length) h9 (most := 18446744073709551615) (by omega) (l ++ Y)
  have e : wtext l ++ Y = wnum l.length ++ (l ++ Y) := by rw [wtext, List.append_assoc]
  have en : (BitVec.ofNat 64 l.length).toNat = l.length := by rw [BitVec.toNat_ofNat]; exact Nat.mod_eq_of_lt h9
  have h4 := rText_4 (most := most) (s := (wtext l ++ Y, 0)) (by rw [e, h]; simp) (by rw [e, h]; simp only [en]; omega) (by rw [e, h]; simp only [en, List.length_append]; omega)
  rw [h4, e, h]
  simp only [en]
  rw [List.take_left' rfl, List.drop_left' rfl]
theorem text_det {X : Bs} {most : Int} (h : (rText most (X, 0)).2.2 = 0) : X = wtext (rText most (X, 0)).1 ++ (rText most (X, 0)).2.1 ∧ ((rText most (X, 0)).1.length : Int) ≤ most := by
  by_cases h1 : (rNum 18446744073709551615 (X, 0)).2.2 ≠ 0
  · rw [rText_1 h1] at h; exact absurd h h1
  · by_cases h2 : most < 0 ∨ most < (rNum 18446744073709551615 (X, 0)).1.toNat
    · rw [rText_2 h1 h2] at h; cases h
    · by_cases h3 : (rNum 18446744073709551615 (X, 0)).2.1.length < (rNum 18446744073709551615 (X, 0)).1.toNat
      · rw [rText_3 h1 h2 h3] at h; cases h
      · rw [rText_4 h1 h2 h3]
        have hne : nE 18446744073709551615 X = 0 := by
          by_cases h4 : nE 18446744073709551615 X = 0
          · exact h4
          · rw [rNum_err rfl h4] at h1; exact absurd h4 h1
        have e := rNum_ok hne
        rw [e] at h2 h3 ⊢
        simp only at h2 h3 ⊢
        have hd := num_det hne
        have hl : ((X.drop (1 + nW X)).take (nV X).toNat).length = (nV X).toNat := by rw [List.length_take]; omega
        refine ⟨?_, by rw [hl]; omega⟩
        rw [wtext, hl, List.append_assoc, List.take_append_drop]
        exact hd
theorem frV_wf {l : Bs} (h : l.length ≤ 262144) (Y : Bs) : frV (wf l ++ Y) = some (l, (wf l).length) := by
  have e : wf l ++ Y = wtext l ++ ((sha (wtext l)).take 8 ++ Y) := by rw [wf, List.append_assoc]
  have h1 := text_back (l := l) (most := 262144) (by omega) (by omega) ((sha (wtext l)).take 8 ++ Y)
  rw [← e] at h1
  have hs : ((sha (wtext l)).take 8).length = 8 := by rw [List.length_take]; simp
  have e2 : (wf l ++ Y).length - ((sha (wtext l)).take 8 ++ Y).length = (wtext l).length := by
    rw [e]; simp only [List.length_append]; omega
  have h2 := frV_some (X := wf l ++ Y) (by rw [h1]; simp only [List.length_append, hs]; omega) (by
    rw [h1]; simp only [e2]
    rw [e, List.take_left' rfl, List.take_left' hs])
  rw [h2, h1]
  simp only [e2]
  congr 2
  rw [wf_length, wtext_length]; omega
theorem frV_det {X r : Bs} {n : Nat} (h : frV X = some (r, n)) : X = wf r ++ X.drop n ∧ n = (wf r).length ∧ r.length ≤ 262144 ∧ n ≤ X.length := by
  by_cases h1 : (rText 262144 (X, 0)).2.2 ≠ 0 ∨ (rText 262144 (X, 0)).2.1.length < 8
  · rw [frV_no h1] at h; cases h
  · by_cases h2 : (sha (X.take (X.length - (rText 262144 (X, 0)).2.1.length))).take 8 = (rText 262144 (X, 0)).2.1.take 8
    · rw [frV_some h1 h2] at h
      have h3 : (rText 262144 (X, 0)).2.2 = 0 := by omega
      obtain ⟨h4, h5⟩ := text_det h3
      generalize rText 262144 (X, 0) = t at *
      simp only [Option.some.injEq, Prod.mk.injEq] at h
      obtain ⟨rfl, hn⟩ := h
      have e1 : X.length = (wtext t.1).length + t.2.1.length := by
        have := congrArg List.length h4
        simpa using this
      have e2 : X.length - t.2.1.length = (wtext t.1).length := by omega
      rw [e2] at h2 hn
      have e3 : X.take (wtext t.1).length = wtext t.1 := by conv => lhs; rw [h4]
                                                            exact List.take_left' rfl
      rw [e3] at h2
      have h6 : 8 ≤ t.2.1.length := by omega
      have e4 : t.2.1 = (sha (wtext t.1)).take 8 ++ X.drop n := by
        rw [h2]
        have e5 : X.drop n = t.2.1.drop 8 := by
          rw [← hn]
          conv => lhs; rw [h4]
          rw [← List.drop_drop, List.drop_left' rfl]
        rw [e5, List.take_append_drop]
      refine ⟨?_, ?_, by omega, by omega⟩
      · rw [wf, List.append_assoc, ← e4]; exact h4
      · rw [← hn, wf_length, wtext_length]; omega
    · rw [frV_mac h2] at h; cases h
/-- what is cut off is no frame -/
theorem frV_cut {l : Bs} (h : l.length ≤ 262144) {c : Nat} (hc : c < (wf l).length) : frV ((wf l).take c) = none := by
  cases hf : frV ((wf l).take c) with
  | none => rfl
  | some p =>
    obtain ⟨r, n⟩ := p
    obtain ⟨h1, h2, h3, h4⟩ := frV_det hf
    have e : wf l = wf r ++ (((wf l).take c).drop n ++ (wf l).drop c) := by
      rw [← List.append_assoc, ← h1, List.take_append_drop]
    have g1 := frV_wf h []
    rw [List.append_nil, e, frV_wf h3, ← e] at g1
    simp only [Option.some.injEq, Prod.mk.injEq] at g1
    have := g1.2
    rw [List.length_take] at h4
    omega
/-! ### scanning -/
/-- the records that are found in i steps, and how many bytes their frames have -/
def scN (l : Bs) : Nat → List Bs × Nat
  | 0 => ([], 0)
  | i + 1 => match frV (l.drop (scN l i).2) with
    | none => scN l i
    | some (r, n) => ((scN l i).1 ++ [r], (scN l i).2 + n)
def scanV (l : Bs) : List Bs × Nat := scN l l.length
theorem scN_some {l r : Bs} {n i : Nat} (h : frV (l.drop (scN l i).2) = some (r, n)) : scN l (i + 1) = ((scN l i).1 ++ [r], (scN l i).2 + n) := by simp only [scN, h]
theorem scN_none {l : Bs} {i : Nat} (h : frV (l.drop (scN l i).2) = none) : scN l (i + 1) = scN l i := by simp only [scN, h]
theorem scN_end {l : Bs} {i : Nat} (h : frV (l.drop (scN l i).2) = none) : ∀ k, scN l (i + k) = scN l i
  | 0 => rfl
  | k + 1 => by
    have := scN_end h k
    rw [← Nat.add_assoc, scN_none (by rw [this]; exact h), this]
theorem scN_le (l : Bs) : ∀ i, (scN l i).2 ≤ l.length
  | 0 => Nat.zero_le _
  | i + 1 => by
    cases h : frV (l.drop (scN l i).2) with
    | none => rw [scN_none h]; exact scN_le l i
    | some p =>
      obtain ⟨r, n⟩ := p
      have h4 := (frV_det h).2.2.2
      have := scN_le l i
      rw [List.length_drop] at h4
      rw [scN_some h]; simp only; omega
theorem scN_grow (l : Bs) : ∀ i, frV (l.drop (scN l i).2) = none ∨ i ≤ (scN l i).2
  | 0 => .inr (Nat.zero_le _)
  | i + 1 => by
    cases h : frV (l.drop (scN l i).2) with
    | none => rw [scN_none h]; exact .inl h
    | some p =>
      obtain ⟨r, n⟩ := p
      have h2 := (frV_det h).2.1
      rw [wf_length] at h2
      rcases scN_grow l i with h3 | h3
      · rw [h] at h3; cases h3
      · right; rw [scN_some h]; simp only; omega
theorem frV_nil : frV [] = none := by
  cases h : frV [] with
  | none => rfl
  | some p =>
    obtain ⟨r, n⟩ := p
    have h2 := frV_det h
    have := h2.2.2.2
    rw [h2.2.1, wf_length] at this
    simp at this
theorem scanV_stop (l : Bs) : frV (l.drop (scanV l).2) = none := by
  rcases scN_grow l l.length with h | h
  · exact h
  · rw [scanV, List.drop_eq_nil_of_le h]; exact frV_nil
theorem scanV_of {l : Bs} {i : Nat} (h : frV (l.drop (scN l i).2) = none) : scanV l = scN l i := by
  rcases Nat.le_total i l.length with h1 | h1
  · obtain ⟨k, hk⟩ := Nat.exists_eq_add_of_le h1
    rw [scanV, hk, scN_end h]
  · obtain ⟨k, hk⟩ := Nat.exists_eq_add_of_le h1
    have := scN_end (scanV_stop l) k
    rw [← hk] at this
    exact this.symm
/-- frames one behind the other -/
def wfs : List Bs → Bs
  | [] => []
  | l :: ls => wf l ++ wfs ls
theorem wfs_append : ∀ (a b : List Bs), wfs (a ++ b) = wfs a ++ wfs b
  | [], _ => rfl
  | x :: a, b => by simp [wfs, wfs_append a b]
theorem wfs_snoc (ls : List Bs) {i : Nat} (h : i < ls.length) : wfs (ls.take (i + 1)) = wfs (ls.take i) ++ wf (ls.getD i []) := by
  rw [take_snoc (d := []) ls h, wfs_append]; simp [wfs]
/-- what is told are just the bytes that are counted -/
theorem scN_one (l : Bs) : ∀ i, wfs (scN l i).1 = l.take (scN l i).2 ∧ ∀ r ∈ (scN l i).1, r.length ≤ 262144
  | 0 => ⟨by simp [scN, wfs], by simp [scN]⟩
  | i + 1 => by
    obtain ⟨h1, h2⟩ := scN_one l i
    cases h : frV (l.drop (scN l i).2) with
    | none => rw [scN_none h]; exact ⟨h1, h2⟩
    | some p =>
      obtain ⟨r, n⟩ := p
      obtain ⟨g1, g2, g3, g4⟩ := frV_det h
      rw [scN_some h]
      refine ⟨?_, fun x hx => ?_⟩
      · simp only
        rw [wfs_append, h1]
        have e : wfs [r] = (l.drop (scN l i).2).take n := by
          conv => rhs; rw [g1]
          rw [g2, List.take_left' rfl]; simp [wfs]
        rw [e, List.take_add]
      · rcases List.mem_append.1 hx with hx | hx
        · exact h2 x hx
        · rw [List.mem_singleton.1 hx]; exact g3
theorem scN_frames {ls : List Bs} (Y : Bs) (h : ∀ r ∈ ls, r.length ≤ 262144) : ∀ {i : Nat}, i ≤ ls.length → scN (wfs ls ++ Y) i = (ls.take i, (wfs (ls.take i)).length)
  | 0, _ => rfl
  | i + 1, hi => by
    have ih := scN_frames Y h (i := i) (by omega)
    have e : (wfs ls ++ Y).drop (wfs (ls.take i)).length = wf (ls.getD i []) ++ (wfs (ls.drop (i + 1)) ++ Y) := by
      have e1 : wfs ls = wfs (ls.take i) ++ (wf (ls.getD i []) ++ wfs (ls.drop (i + 1))) := by
        conv => lhs; rw [← List.take_append_drop i ls, wfs_append, List.drop_eq_getElem_cons (by omega)]
        simp [wfs, List.getD, show i < ls.length by omega]
      rw [e1, List.append_assoc, List.drop_left' rfl, List.append_assoc]
    have hg : (ls.getD i []).length ≤ 262144 := by
      have : ls.getD i [] ∈ ls := by simp [List.getD, show i < ls.length by omega]
      exact h _ this
    rw [scN_some (by rw [ih]; simp only; rw [e]; exact frV_wf hg _), ih]
    simp only
    rw [wfs_snoc ls (by omega), List.length_append, take_snoc (d := []) ls (by omega)]
theorem scanV_frames {ls : List Bs} (h : ∀ r ∈ ls, r.length ≤ 262144) : scanV (wfs ls) = (ls, (wfs ls).length) := by
  have e := scN_frames [] h (Nat.le_refl _)
  rw [List.append_nil, List.take_length] at e
  rw [scanV_of (i := ls.length), e]
  rw [e]; simp only
  rw [List.drop_length]; exact frV_nil
/-- each step keeps what was found -/
theorem scN_pre (l : Bs) (i : Nat) : ∀ k, (∃ t, (scN l (i + k)).1 = (scN l i).1 ++ t) ∧ (scN l i).2 ≤ (scN l (i + k)).2
  | 0 => ⟨⟨[], by simp⟩, Nat.le_refl _⟩
  | k + 1 => by
    obtain ⟨⟨t, h1⟩, h2⟩ := scN_pre l i k
    rw [← Nat.add_assoc]
    cases h : frV (l.drop (scN l (i + k)).2) with
    | none => rw [scN_none h]; exact ⟨⟨t, h1⟩, h2⟩
    | some p =>
      obtain ⟨r, n⟩ := p
      rw [scN_some h]
      exact ⟨⟨t ++ [r], by simp only; rw [h1, List.append_assoc]⟩, by simp only; omega⟩
/-! ### a number stands within nine bytes -/
theorem nW_take9 (X : Bs) : nW (X.take 9) = nW X := by cases X <;> rfl
theorem nV_take9 {X : Bs} (h : nW X ≤ 8) : nV (X.take 9) = nV X := by
  have e : ((X.take 9).drop 1).take (nW X) = (X.drop 1).take (nW X) := by
    rw [List.drop_take, List.take_take, Nat.min_eq_left (by omega)]
  rw [nV, nW_take9, e, nV]
theorem nE_take9 (m : Nat) (X : Bs) : nE m (X.take 9) = nE m X := by
  have hl : (X.take 9).length = min 9 X.length := List.length_take
  by_cases h0 : X.length = 0
  · rw [nE_0 h0, nE_0 (by omega)]
  · by_cases h1 : 8 < nW X
    · rw [nE_1 h0 h1, nE_1 (by omega) (by rw [nW_take9]; exact h1)]
    · by_cases h2 : X.length - 1 < nW X
      · rw [nE_2 h0 h1 h2, nE_2 (by omega) (by rw [nW_take9]; exact h1) (by rw [nW_take9]; omega)]
      · have h2' : ¬ (X.take 9).length - 1 < nW (X.take 9) := by rw [nW_take9]; omega
        have hg : 0 < nW X → (X.take 9).getD 1 0#8 = X.getD 1 0#8 := fun h => by simp [List.getD, List.getElem?_take]
        by_cases h3 : 0 < nW X ∧ X.getD 1 0#8 = 0#8
        · rw [nE_3 h0 h1 h2 h3, nE_3 (by omega) (by rw [nW_take9]; exact h1) h2' ⟨by rw [nW_take9]; exact h3.1, by rw [hg h3.1]; exact h3.2⟩]
        · have h3' : ¬ (0 < nW (X.take 9) ∧ (X.take 9).getD 1 0#8 = 0#8) := fun h => by
            rw [nW_take9] at h
            exact h3 ⟨h.1, by rw [← hg h.1]; exact h.2⟩
          by_cases h4 : m < (nV X).toNat
          · rw [nE_4 h0 h1 h2 h3 h4, nE_4 (by omega) (by rw [nW_take9]; exact h1) h2' h3' (by rw [nV_take9 (by omega)]; exact h4)]
          · rw [nE_5 h0 h1 h2 h3 h4, nE_5 (by omega) (by rw [nW_take9]; exact h1) h2' h3' (by rw [nV_take9 (by omega)]; exact h4)]
theorem nE_more {m m' : Nat} {X : Bs} (h : nE m X = 0) (hm : m ≤ m') : nE m' X = 0 := by
  obtain ⟨h0, h1, h2, h3, h4⟩ := nE_zero h
  exact nE_5 h0 (by omega) (by omega) h3 (by omega)
theorem frV_bad {X : Bs} (h : ¬ nE 262144 X = 0) : frV X = none := by
  apply frV_no
  left
  by_cases h1 : nE 18446744073709551615 X = 0
  · have e := rNum_ok h1
    have h4 : 262144 < (nV X).toNat := by
      obtain ⟨g0, g1, g2, g3, g4⟩ := nE_zero h1
      rcases Nat.lt_or_ge 262144 (nV X).toNat with h5 | h5
      · exact h5
      · exact absurd (nE_5 g0 (by omega) (by omega) g3 (by omega)) h
    rw [rText_2 (by rw [e]; simp) (by rw [e]; simp only; omega)]
    simp
  · have e := rNum_err rfl h1
    rw [rText_1 (by rw [e]; exact h1), e]
    exact h1
theorem fr_text {X : Bs} (h : nE 262144 X = 0) (hl : 1 + nW X + (nV X).toNat ≤ X.length) : rText 262144 (X, 0) = ((X.drop (1 + nW X)).take (nV X).toNat, X.drop (1 + nW X + (nV X).toNat), 0) := by
  have e := rNum_ok (nE_more h (m' := 18446744073709551615) (by omega))
  obtain ⟨g0, g1, g2, g3, g4⟩ := nE_zero h
  rw [rText_4 (by rw [e]; simp) (by rw [e]; simp only; omega) (by rw [e]; simp only [List.length_drop]; omega), e]
  simp only [List.drop_drop]
theorem fr_short {X : Bs} (h : nE 262144 X = 0) (hl : X.length < 1 + nW X + (nV X).toNat + 8) : frV X = none := by
  apply frV_no
  by_cases h2 : 1 + nW X + (nV X).toNat ≤ X.length
  · right
    rw [fr_text h h2]
    simp only [List.length_drop]; omega
  · left
    have e := rNum_ok (nE_more h (m' := 18446744073709551615) (by omega))
    obtain ⟨g0, g1, g2, g3, g4⟩ := nE_zero h
    rw [rText_3 (by rw [e]; simp) (by rw [e]; simp only; omega) (by rw [e]; simp only [List.length_drop]; omega)]
    simp
theorem fr_len {X : Bs} (h : nE 262144 X = 0) (hl : 1 + nW X + (nV X).toNat ≤ X.length) : X.length - (rText 262144 (X, 0)).2.1.length = 1 + nW X + (nV X).toNat := by
  rw [fr_text h hl]; simp only [List.length_drop]; omega
theorem fr_yes {X : Bs} (h : nE 262144 X = 0) (hl : ¬ X.length < 1 + nW X + (nV X).toNat + 8) (hs : (sha (X.take (1 + nW X + (nV X).toNat))).take 8 = (X.drop (1 + nW X + (nV X).toNat)).take 8) :
    frV X = some ((X.drop (1 + nW X)).take (nV X).toNat, 1 + nW X + (nV X).toNat + 8) := by
  have e := fr_len h (by omega)
  rw [frV_some (by rw [fr_text h (by omega)]; simp only [List.length_drop]; omega) (by rw [e, fr_text h (by omega)]; exact hs), e, fr_text h (by omega)]
theorem fr_mac {X : Bs} (h : nE 262144 X = 0) (hl : ¬ X.length < 1 + nW X + (nV X).toNat + 8) (hs : ¬ (sha (X.take (1 + nW X + (nV X).toNat))).take 8 = (X.drop (1 + nW X + (nV X).toNat)).take 8) : frV X = none := by
  have e := fr_len h (by omega)
  exact frV_mac (by rw [e, fr_text h (by omega)]; exact hs)
theorem num9 (X : Bs) {s : BitVec 64 × RS} (h : s = rNum 262144 (List.drop 0 (X.take 9), 0)) :
    (s.2.2 ≠ 0 → frV X = none) ∧ (s.2.2 = 0 → s.1 = nV X ∧ s.2.1 = (X.take 9).drop (1 + nW X) ∧ nE 262144 X = 0) ∧ s.1.toNat ≤ 262144 := by
  rw [List.drop_zero] at h
  by_cases h0 : nE 262144 X = 0
  · have e := rNum_ok (X := X.take 9) (most := 262144) (by rw [nE_take9]; exact h0)
    obtain ⟨g0, g1, g2, g3, g4⟩ := nE_zero h0
    rw [nW_take9, nV_take9 g1] at e
    rw [e] at h; subst h
    exact ⟨fun h => absurd rfl h, fun _ => ⟨rfl, rfl, h0⟩, g4⟩
  · have e := rNum_err (X := X.take 9) (most := 262144) (nE_take9 262144 X) h0
    rw [e] at h; subst h
    exact ⟨fun _ => frV_bad h0, fun h => absurd h h0, by simp⟩
theorem num9_at {X : Bs} {k : Nat} (h : nE 262144 X = 0) (hk : k ≤ (X.take 9).length) (e : (X.take 9).drop k = (X.take 9).drop (1 + nW X)) : k = 1 + nW X := by
  obtain ⟨g0, g1, g2, g3, g4⟩ := nE_zero h
  have e1 := congrArg List.length e
  have h9 : (X.take 9).length = min 9 X.length := List.length_take
  rw [List.length_drop, List.length_drop] at e1
  omega
theorem getD_mem {ls : List Bs} {i : Nat} (h : i < ls.length) : ls.getD i [] ∈ ls := by
  simp [List.getD, h]
theorem wfs_take_le (ls : List Bs) (i : Nat) : (wfs (ls.take i)).length ≤ (wfs ls).length := by
  have e := congrArg List.length (wfs_append (ls.take i) (ls.drop i))
  rw [List.take_append_drop, List.length_append] at e
  omega
theorem head9 (l : Bs) {a : Nat} (h : a ≤ l.length) : (l.drop a).take (min l.length (a + 9) - a) = (l.drop a).take 9 := by
  rcases Nat.le_total l.length (a + 9) with h1 | h1
  · rw [Nat.min_eq_left h1, List.take_of_length_le (by simp), List.take_of_length_le (by simp; omega)]
  · rw [Nat.min_eq_right h1]; congr 1; omega
theorem scN_count (l : Bs) : ∀ i, 9 * (scN l i).1.length ≤ (scN l i).2
  | 0 => Nat.le_refl _
  | i + 1 => by
    have ih := scN_count l i
    cases h : frV (l.drop (scN l i).2) with
    | none => rw [scN_none h]; exact ih
    | some p =>
      obtain ⟨r, n⟩ := p
      have h2 := (frV_det h).2.1
      rw [wf_length] at h2
      rw [scN_some h]; simp only [List.length_append, List.length_singleton]; omega
end Go.Proofs.YthhdilafnfcpbaaDoor
