/- Plain laws of layer 17: tokens. -/
import Derived.Test.YtokcbfklogjnfaaDoorMr
import Derived.Test.YtokcbfklogjnfaaDoorMe
namespace Go.Proofs.YtokcbfklogjnfaaDoor
open Go
set_option linter.unusedSimpArgs false
/-- the greatest number -/
def tM : Nat := 1099511627776
def inT (n : Int) : Prop := 0 ≤ n ∧ n ≤ 1099511627776
instance (n : Int) : Decidable (inT n) := inferInstanceAs (Decidable (_ ∧ _))
def RtT (ts : List Int) : Prop := ∀ n ∈ ts, inT n
instance (ts : List Int) : Decidable (RtT ts) := inferInstanceAs (Decidable (∀ n ∈ ts, inT n))
/-- numbers' bytes, one behind the other -/
def bodyT : List Int → Bs
  | [] => []
  | n :: ts => wnum n.toNat ++ bodyT ts
theorem bodyT_append : ∀ (a b : List Int), bodyT (a ++ b) = bodyT a ++ bodyT b
  | [], _ => rfl
  | n :: a, b => by simp [bodyT, bodyT_append a b]
theorem wnum_len {n : Int} (h : inT n) : (wnum n.toNat).length ≤ 9 := by
  obtain ⟨h1, h2⟩ := h
  have := wd_le (n := n.toNat) (by omega)
  rw [wnum_length]; omega
theorem bodyT_len : ∀ {ts : List Int}, RtT ts → (bodyT ts).length ≤ 9 * ts.length
  | [], _ => by simp [bodyT]
  | n :: ts, h => by
    have h1 := wnum_len (h n (by simp))
    have h2 := bodyT_len (ts := ts) fun m hm => h m (by simp [hm])
    simp only [bodyT, List.length_append, List.length_cons]
    omega
/-- a token's bytes, or the error -/
def mkT (key : Bs) (ts : List Int) : Bs × Nat := if RtT ts then (bodyT ts ++ macV key (bodyT ts), 0) else ([], 1)
theorem mkT_ok {key : Bs} {ts : List Int} (h : RtT ts) : mkT key ts = (bodyT ts ++ macV key (bodyT ts), 0) := if_pos h
theorem mkT_bad {key : Bs} {ts : List Int} (h : ¬ RtT ts) : mkT key ts = ([], 1) := if_neg h
/-- the first numbers of bytes -/
def rT (s : RS) : Nat → List Int × RS
  | 0 => ([], s)
  | i + 1 => ((rT s i).1 ++ [((rNum tM (rT s i).2).1.toNat : Int)], (rNum tM (rT s i).2).2)
@[simp] theorem rT_length (s : RS) : ∀ i, (rT s i).1.length = i
  | 0 => rfl
  | i + 1 => by simp [rT, rT_length s i]
theorem rNum_le (m : Nat) (s : RS) : (rNum m s).1.toNat ≤ m := by
  rw [rNum]; split
  · simp
  · split
    · rename_i h; exact (nE_zero h).2.2.2.2
    · simp
theorem rT_rest (s : RS) : ∀ i, (rT s i).2.1.length ≤ s.1.length
  | 0 => Nat.le_refl _
  | i + 1 => Nat.le_trans (rNum_len _ _) (rT_rest s i)
theorem mac_length (k l : Bs) : (macV k l).length = 32 := by simp [macV, rndB]
/-- the token of bytes, or the error -/
def chkT (key l : Bs) : List Int × Nat :=
  if (rEnd (rDig (rT (l, 0) 6).2).2).1 ≠ 0 then (List.replicate 6 0, (rEnd (rDig (rT (l, 0) 6).2).2).1)
  else if macV key (l.take (l.length - (rT (l, 0) 6).2.1.length)) = (rDig (rT (l, 0) 6).2).1 then ((rT (l, 0) 6).1, 0) else (List.replicate 6 0, 170)
theorem chkT_e {key l : Bs} (h : (rEnd (rDig (rT (l, 0) 6).2).2).1 ≠ 0) : chkT key l = (List.replicate 6 0, (rEnd (rDig (rT (l, 0) 6).2).2).1) := if_pos h
theorem chkT_m {key l : Bs} (h : ¬ (rEnd (rDig (rT (l, 0) 6).2).2).1 ≠ 0) (h2 : ¬ macV key (l.take (l.length - (rT (l, 0) 6).2.1.length)) = (rDig (rT (l, 0) 6).2).1) : chkT key l = (List.replicate 6 0, 170) := by rw [chkT, if_neg h, if_neg h2]
theorem chkT_o {key l : Bs} (h : ¬ (rEnd (rDig (rT (l, 0) 6).2).2).1 ≠ 0) (h2 : macV key (l.take (l.length - (rT (l, 0) 6).2.1.length)) = (rDig (rT (l, 0) 6).2).1) : chkT key l = ((rT (l, 0) 6).1, 0) := by rw [chkT, if_neg h, if_pos h2]
theorem chkT_length (key l : Bs) : (chkT key l).1.length = 6 := by
  rw [chkT]; split
  · simp
  · split <;> simp
/-! ### there and back -/
theorem rT_steps {ts : List Int} (Y : Bs) (h : RtT ts) : ∀ {i : Nat}, i ≤ ts.length → rT (bodyT ts ++ Y, 0) i = (ts.take i, bodyT (ts.drop i) ++ Y, 0)
  | 0, _ => rfl
  | i + 1, hi => by
    have hx : inT ts[i] := h _ (List.getElem_mem _)
    have h2 := num_back (n := ts[i].toNat) (by have := hx.2; omega) (most := tM) (by have := hx.2; simp only [tM]; omega) (bodyT (ts.drop (i + 1)) ++ Y)
    have e : ((BitVec.ofNat 64 ts[i].toNat).toNat : Int) = ts[i] := by
      obtain ⟨g1, g2⟩ := hx
      rw [BitVec.toNat_ofNat, Nat.mod_eq_of_lt (by omega)]; omega
    rw [rT, rT_steps Y h (by omega), List.drop_eq_getElem_cons (by omega)]
    simp only [bodyT, List.append_assoc, h2, e]
    rw [List.take_succ_eq_append_getElem (by omega)]
theorem rT_back {ts : List Int} (Y : Bs) (h : RtT ts) : rT (bodyT ts ++ Y, 0) ts.length = (ts, Y, 0) := by
  rw [rT_steps Y h (Nat.le_refl _), List.take_length, List.drop_length]; rfl
theorem chkT_back {key : Bs} {ts : List Int} (h : RtT ts) (hl : ts.length = 6) : chkT key (mkT key ts).1 = (ts, 0) := by
  rw [mkT_ok h]
  have h1 := rT_back (macV key (bodyT ts)) h
  rw [hl] at h1
  have hm := mac_length key (bodyT ts)
  have h2 : rDig (macV key (bodyT ts), 0) = (macV key (bodyT ts), [], 0) := by
    rw [rDig_ok (by omega), List.take_of_length_le (by omega), List.drop_of_length_le (by omega)]
  have h3 : rEnd ([], 0) = (0, [], 0) := rEnd_ok (by simp)
  rw [chkT_o (by rw [h1, h2, h3]; simp) (by
    rw [h1, h2]
    simp only [List.length_append]
    rw [Nat.add_sub_cancel, List.take_left' rfl]), h1]
/-- once an error is met it stays -/
theorem rNum_stay {m : Nat} {s : RS} (h : s.2 ≠ 0) : rNum m s = (0#64, s) := by simp [rNum, h]
theorem rDig_stay {s : RS} (h : s.2 ≠ 0) : rDig s = (List.replicate 32 0#8, s) := by simp [rDig, h]
theorem rNum_good {m : Nat} {s : RS} (h : (rNum m s).2.2 = 0) : s.2 = 0 ∧ nE m s.1 = 0 ∧ s.1 = wnum (rNum m s).1.toNat ++ (rNum m s).2.1 := by
  by_cases h0 : s.2 = 0
  · by_cases h1 : nE m s.1 = 0
    · refine ⟨h0, h1, ?_⟩
      have e : rNum m s = (nV s.1, s.1.drop (1 + nW s.1), 0) := by simp [rNum, h0, h1]
      rw [e]
      exact num_det h1
    · simp [rNum, h0, h1] at h
  · rw [rNum_stay h0] at h
    exact absurd h h0
theorem rDig_good {s : RS} (h : (rDig s).2.2 = 0) : s.2 = 0 ∧ s.1 = (rDig s).1 ++ (rDig s).2.1 := by
  by_cases h0 : s.2 = 0
  · by_cases h1 : s.1.length < 32
    · simp [rDig, h0, h1] at h
    · refine ⟨h0, ?_⟩
      simp [rDig, h0, h1]
  · rw [rDig_stay h0] at h
    exact absurd h h0
theorem rT_good {s : RS} : ∀ {i : Nat}, (rT s i).2.2 = 0 → s.2 = 0 ∧ s.1 = bodyT (rT s i).1 ++ (rT s i).2.1 ∧ RtT (rT s i).1
  | 0, h => ⟨h, rfl, fun n hn => by simp [rT] at hn⟩
  | i + 1, h => by
    obtain ⟨h1, h2, h3⟩ := rNum_good h
    obtain ⟨h4, h5, h6⟩ := rT_good (s := s) (i := i) h1
    have hb := rNum_le tM (rT s i).2
    refine ⟨h4, ?_, ?_⟩
    · have e : bodyT (rT s (i + 1)).1 = bodyT (rT s i).1 ++ wnum (rNum tM (rT s i).2).1.toNat := by
        rw [rT, bodyT_append]; simp [bodyT]
      rw [e, List.append_assoc]
      have e2 : (rT s (i + 1)).2.1 = (rNum tM (rT s i).2).2.1 := rfl
      rw [e2, ← h3]
      exact h5
    · intro n hn
      rw [rT] at hn
      rcases List.mem_append.1 hn with hn | hn
      · exact h6 n hn
      · obtain rfl := List.mem_singleton.1 hn
        constructor
        · omega
        · simp only [tM] at hb ⊢; omega
/-- what is checked has just these bytes -/
theorem rEnd_zero {s : RS} (h : (rEnd s).1 = 0) : s.2 = 0 ∧ s.1 = [] := by
  unfold rEnd at h
  split at h
  · cases h
  · rename_i hn
    have h1 : s.2 = 0 := h
    refine ⟨h1, ?_⟩
    rcases Nat.eq_zero_or_pos s.1.length with h | h
    · exact List.eq_nil_of_length_eq_zero h
    · exact absurd ⟨h1, h⟩ hn
theorem chkT_just {key l : Bs} (h : (chkT key l).2 = 0) : RtT (chkT key l).1 ∧ mkT key (chkT key l).1 = (l, 0) := by
  have hg := rT_good (s := (l, 0)) (i := 6)
  have hd := rDig_good (s := (rT (l, 0) 6).2)
  have hz := rEnd_zero (s := (rDig (rT (l, 0) 6).2).2)
  unfold chkT at h ⊢
  generalize rT (l, 0) 6 = p at *
  generalize rDig p.2 = q at *
  generalize (rEnd q.2).1 = E at *
  by_cases h1 : E ≠ 0
  · rw [if_pos h1] at h; exact absurd h h1
  · rw [if_neg h1] at h ⊢
    obtain ⟨z1, z2⟩ := hz (Classical.byContradiction h1)
    obtain ⟨_, h5⟩ := hd z1
    obtain ⟨h4, _⟩ := hd z1
    obtain ⟨_, h6, h7⟩ := hg h4
    rw [z2, List.append_nil] at h5
    have h6' : l = bodyT p.1 ++ p.2.1 := h6
    have e : l.take (l.length - p.2.1.length) = bodyT p.1 := by
      conv => lhs; rw [h6']
      rw [List.length_append, Nat.add_sub_cancel, List.take_left' rfl]
    by_cases h2 : macV key (l.take (l.length - p.2.1.length)) = q.1
    · rw [if_pos h2]
      refine ⟨h7, ?_⟩
      rw [e] at h2
      show mkT key p.1 = (l, 0)
      rw [mkT_ok h7, h2, ← h5, ← h6']
    · rw [if_neg h2] at h; cases h
theorem num_cut {n m c : Nat} (h : n < 18446744073709551616) (Y : Bs) (hc : c < (wnum n).length) : nE m ((wnum n ++ Y).take c) = 40 := by
  rw [wnum_length] at hc
  have h8 := wd_le h
  have hl : ((wnum n ++ Y).take c).length = c := by rw [List.length_take, List.length_append, wnum_length]; omega
  by_cases h0 : c = 0
  · exact nE_0 (by omega)
  · obtain ⟨k, rfl⟩ : ∃ k, c = k + 1 := ⟨c - 1, by omega⟩
    have hw : nW ((wnum n ++ Y).take (k + 1)) = wd n := by
      show (BitVec.ofNat 8 (wd n)).toNat = wd n
      rw [BitVec.toNat_ofNat]; exact Nat.mod_eq_of_lt (by omega)
    exact nE_2 (by omega) (by omega) (by omega)
theorem rT_cut {ts : List Int} (Y : Bs) (c : Nat) (h : RtT ts) : ∀ {i : Nat}, i ≤ ts.length →
    (rT ((bodyT ts ++ Y).take c, 0) i).2.2 = 40 ∨ ((bodyT (ts.take i)).length ≤ c ∧ (rT ((bodyT ts ++ Y).take c, 0) i).2 = ((bodyT (ts.drop i) ++ Y).take (c - (bodyT (ts.take i)).length), 0))
  | 0, _ => .inr ⟨by simp [bodyT], rfl⟩
  | i + 1, hi => by
    rcases rT_cut Y c h (i := i) (by omega) with h1 | ⟨h1, h2⟩
    · left
      rw [rT, rNum_stay (by rw [h1]; decide)]
      exact h1
    · have hx : inT ts[i] := h _ (List.getElem_mem _)
      have hn : ts[i].toNat < 18446744073709551616 := by have := hx.2; omega
      have e1 : bodyT (ts.take (i + 1)) = bodyT (ts.take i) ++ wnum ts[i].toNat := by
        rw [List.take_succ_eq_append_getElem (by omega), bodyT_append]; simp [bodyT]
      have e2 : bodyT (ts.drop i) ++ Y = wnum ts[i].toNat ++ (bodyT (ts.drop (i + 1)) ++ Y) := by
        rw [List.drop_eq_getElem_cons (by omega), bodyT, List.append_assoc]
      rw [e2] at h2
      by_cases hc : c - (bodyT (ts.take i)).length < (wnum ts[i].toNat).length
      · left
        have h3 := num_cut (m := tM) hn (bodyT (ts.drop (i + 1)) ++ Y) hc
        rw [rT, h2, rNum_err h3 (by decide)]
      · right
        have h3 := num_back hn (most := tM) (by have := hx.2; simp only [tM]; omega) ((bodyT (ts.drop (i + 1)) ++ Y).take (c - (bodyT (ts.take (i + 1))).length))
        have e3 : (wnum ts[i].toNat ++ (bodyT (ts.drop (i + 1)) ++ Y)).take (c - (bodyT (ts.take i)).length) = wnum ts[i].toNat ++ (bodyT (ts.drop (i + 1)) ++ Y).take (c - (bodyT (ts.take (i + 1))).length) := by
          rw [List.take_append, List.take_of_length_le (by omega), e1, List.length_append]
          congr 2; omega
        refine ⟨by rw [e1, List.length_append]; omega, ?_⟩
        rw [rT, h2, e3, h3]
/-- no beginning of a token's bytes is one -/
theorem chkT_cut {key : Bs} {ts : List Int} (h : RtT ts) (hl : ts.length = 6) {c : Nat} (hc : c < (mkT key ts).1.length) : chkT key ((mkT key ts).1.take c) = (List.replicate 6 0, 40) := by
  rw [mkT_ok h] at hc ⊢
  have hm := mac_length key (bodyT ts)
  simp only [List.length_append] at hc
  have h1 := rT_cut (macV key (bodyT ts)) c h (i := 6) (by omega)
  have key2 : (rEnd (rDig (rT ((bodyT ts ++ macV key (bodyT ts)).take c, 0) 6).2).2).1 = 40 := by
    generalize rT ((bodyT ts ++ macV key (bodyT ts)).take c, 0) 6 = p at *
    rcases h1 with h1 | ⟨h1, h2⟩
    · rw [rDig_stay (by rw [h1]; decide)]
      obtain ⟨a, X, e⟩ := p
      simp only at h1
      subst h1
      rfl
    · rw [h2]
      have e6 : ts.take 6 = ts := List.take_of_length_le (by omega)
      have e7 : ts.drop 6 = [] := List.drop_eq_nil_of_le (by omega)
      rw [e6] at h1 ⊢
      rw [e7, bodyT, List.nil_append, rDig_err (by rw [List.length_take]; omega)]
      rfl
  rw [chkT_e (by rw [key2]; decide), key2]
theorem bodyT_inj {ts us : List Int} (h : RtT ts) (h' : RtT us) (hl : ts.length = us.length) (e : bodyT ts = bodyT us) : ts = us := by
  have h1 := rT_back [] h
  have h2 := rT_back [] h'
  rw [e, hl, h2] at h1
  exact (congrArg Prod.fst h1).symm
theorem mkT_apart {key : Bs} {ts us : List Int} (h : RtT ts) (h' : RtT us) (hl : ts.length = us.length) :
    ((mkT key ts).1.take ((mkT key ts).1.length - 32) = (mkT key us).1.take ((mkT key us).1.length - 32)) ↔ ts = us := by
  have e : ∀ {ts : List Int}, RtT ts → (mkT key ts).1.take ((mkT key ts).1.length - 32) = bodyT ts := fun {ts} h => by
    rw [mkT_ok h]
    simp only [List.length_append, mac_length, Nat.add_sub_cancel]
    exact List.take_left' rfl
  rw [e h, e h']
  exact ⟨bodyT_inj h h' hl, fun h => by rw [h]⟩
theorem mkT_len {key : Bs} {ts : List Int} (h : RtT ts) : (mkT key ts).1.length = (bodyT ts).length + 32 := by rw [mkT_ok h]; simp [mac_length]
theorem bodyT_snoc (ts : List Int) {i : Nat} (h : i < ts.length) : bodyT (ts.take (i + 1)) = bodyT (ts.take i) ++ wnum (ts.getD i 0).toNat := by
  rw [take_snoc (d := 0) ts h, bodyT_append]; simp [bodyT]
theorem rt6 {ts : List Int} (h : ts.length = 6) : RtT ts ↔ inT (ts.getD 0 0) ∧ inT (ts.getD 1 0) ∧ inT (ts.getD 2 0) ∧ inT (ts.getD 3 0) ∧ inT (ts.getD 4 0) ∧ inT (ts.getD 5 0) := by
  match ts, h with
  | [a, b, c, d, e, f], _ => simp [RtT, List.getD]
theorem tupE {α : Type} {f : α → Value} {p : List α × Nat} {a : List α} {e : Nat} (h : p = (a, e)) : Value.tuple #[.agg (a.map f).toArray, I (e : Int)] = .tuple #[.agg (p.1.map f).toArray, I (p.2 : Int)] := by rw [h]
theorem rT_set (s : RS) {i : Nat} (h : i < 6) : ((rT s i).1 ++ List.replicate (6 - i) (0 : Int)).set i ((rNum tM (rT s i).2).1.toNat : Int) = (rT s (i + 1)).1 ++ List.replicate (6 - (i + 1)) (0 : Int) := by
  have e : 6 - i = (6 - (i + 1)) + 1 := by omega
  rw [List.set_append_right _ _ (by simp), rT_length, Nat.sub_self, e, List.replicate_succ, List.set_cons_zero, rT]
  simp
theorem rDig_rest (s : RS) : (rDig s).2.1.length ≤ s.1.length := by
  rw [rDig]; split
  · exact Nat.le_refl _
  · split
    · exact Nat.le_refl _
    · simp
theorem mkT_bound {key : Bs} {ts : List Int} (h : ts.length = 6) : (mkT key ts).1.length ≤ 200 := by
  by_cases hr : RtT ts
  · have := bodyT_len hr
    rw [mkT_len hr]; omega
  · rw [mkT_bad hr]; simp
theorem mkT_rt {key : Bs} {ts : List Int} (h : (mkT key ts).2 = 0) : RtT ts := Classical.byContradiction fun hr => by rw [mkT_bad hr] at h; cases h
theorem mkT_dec {key : Bs} {ts : List Int} : decide (((mkT key ts).2 : Int) = 0) = decide (RtT ts) := decide_eq_decide.2 ⟨fun h => mkT_rt (key := key) (by omega), fun h => by rw [mkT_ok h]; rfl⟩
theorem mkT_nil {key : Bs} {ts : List Int} (h : ¬ (mkT key ts).2 = 0) : (mkT key ts).1 = [] := by
  by_cases hr : RtT ts
  · rw [mkT_ok hr] at h; exact absurd rfl h
  · rw [mkT_bad hr]
attribute [irreducible] chkT mkT
end Go.Proofs.YtokcbfklogjnfaaDoor
