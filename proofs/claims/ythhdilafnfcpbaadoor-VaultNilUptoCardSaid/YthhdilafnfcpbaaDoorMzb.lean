/- The texts Mt, Mu, Mv, Mw of this proof's library, one behind the other. -/
import Derived.Test.YthhdilafnfcpbaaDoorMza
/- Digests in a row, in memory; plain laws of layer 6: the tree. -/
namespace Go.Proofs.YthhdilafnfcpbaaDoor
open Go
set_option linter.unusedVariables false
set_option linter.unusedSimpArgs false

/-- digests' cells -/
def dc (ls : List Bs) : List Value := ls.flatMap (·.map B8)
/-- each has 32 bytes -/
def Dg (ls : List Bs) : Prop := ∀ x ∈ ls, x.length = 32
theorem Dg.nil : Dg [] := by simp [Dg]
theorem Dg.one {x : Bs} (h : x.length = 32) : Dg [x] := by simpa [Dg] using h
theorem Dg.append {a b : List Bs} (ha : Dg a) (hb : Dg b) : Dg (a ++ b) := fun x hx => (List.mem_append.1 hx).elim (ha x) (hb x)
theorem Dg.take {a : List Bs} (ha : Dg a) (n : Nat) : Dg (a.take n) := fun x hx => ha x (List.mem_of_mem_take hx)
theorem Dg.drop {a : List Bs} (ha : Dg a) (n : Nat) : Dg (a.drop n) := fun x hx => ha x (List.mem_of_mem_drop hx)
theorem Dg.getD {a : List Bs} (ha : Dg a) {i : Nat} (hi : i < a.length) : (a.getD i []).length = 32 := by
  rw [List.getD, List.getElem?_eq_getElem hi]
  exact ha _ (List.getElem_mem hi)
theorem Dg.set {a : List Bs} (ha : Dg a) (i : Nat) {x : Bs} (hx : x.length = 32) : Dg (a.set i x) := fun y hy => by
  rcases List.mem_or_eq_of_mem_set hy with h | rfl
  · exact ha y h
  · exact hx
theorem dc_nil : dc [] = [] := rfl
theorem dc_append (a b : List Bs) : dc (a ++ b) = dc a ++ dc b := by simp [dc]
theorem dc_one (x : Bs) : dc [x] = x.map B8 := by simp [dc]
theorem dc_length : ∀ {ls : List Bs}, Dg ls → (dc ls).length = ls.length * 32
  | [], _ => rfl
  | x :: ls, h => by
    have h1 : x.length = 32 := h x (by simp)
    have h2 := dc_length (ls := ls) fun y hy => h y (by simp [hy])
    simp only [dc, List.flatMap_cons, List.length_append, List.length_map, List.length_cons] at h2 ⊢
    omega
theorem dc_split (ls : List Bs) (i : Nat) : dc ls = dc (ls.take i) ++ dc (ls.drop i) := by rw [← dc_append, List.take_append_drop]
theorem dc_take {ls : List Bs} (h : Dg ls) (i : Nat) (hi : i ≤ ls.length) : (dc ls).take (i * 32) = dc (ls.take i) := by
  have hl := dc_length (h.take i)
  rw [List.length_take, Nat.min_eq_left hi] at hl
  rw [dc_split ls i, List.take_append_of_le_length (by omega), List.take_of_length_le (by omega)]
theorem dc_drop {ls : List Bs} (h : Dg ls) (i : Nat) (hi : i ≤ ls.length) : (dc ls).drop (i * 32) = dc (ls.drop i) := by
  have hl := dc_length (h.take i)
  rw [List.length_take, Nat.min_eq_left hi] at hl
  conv => lhs; rw [dc_split ls i]
  rw [List.drop_append_of_le_length (by omega), List.drop_eq_nil_of_le (by omega), List.nil_append]
theorem dc_at {ls : List Bs} (h : Dg ls) {i : Nat} (hi : i < ls.length) : ((dc ls).drop (i * 32)).take 32 = (ls.getD i []).map B8 := by
  have hx := h.getD hi
  rw [dc_drop h i (by omega), List.drop_eq_getElem_cons hi]
  have e : ls[i] = ls.getD i [] := by rw [List.getD, List.getElem?_eq_getElem hi]; rfl
  rw [e]
  simp only [dc, List.flatMap_cons]
  rw [List.take_append_of_le_length (by rw [List.length_map, hx]; exact Nat.le_refl _), List.take_of_length_le (by rw [List.length_map, hx]; exact Nat.le_refl _)]
theorem dc_one' (l : List Bs) : ∀ u ∈ dc l, u.oneCell' = true := fun u hu => by
  obtain ⟨x, _, hu⟩ := List.mem_flatMap.1 hu
  exact one_B8 x u hu
theorem dc_put {ls : List Bs} (h : Dg ls) {i : Nat} (hi : i < ls.length) {x : Bs} (hx : x.length = 32) : (dc ls).take (i * 32) ++ x.map B8 ++ (dc ls).drop (i * 32 + 32) = dc (ls.set i x) := by
  rw [dc_take h i (by omega), show i * 32 + 32 = (i + 1) * 32 by omega, dc_drop h (i + 1) (by omega), List.set_eq_take_append_cons_drop, if_pos hi, dc_append]
  simp [dc]

abbrev OwD (E : Nat) (v : Value) (ls : List Bs) (N : Hl) : Prop := Own E 32 v ls.length (dc ls) N
abbrev RdD (M : List Nat) (w : World) (v : Value) (ls : List Bs) : Prop := Rd M w v ls.length 32 (dc ls)

section
variable {P : Program} {E : Env} {ty t : TypeId} {w : World} {x y : Operand} {M : List Nat} {w0 : World} {Hs : List Hl}
/-- a digest is stored in a row of one's own -/
theorem lo_storeD {e bb : Nat} {z : Value} {v : Value} {ls : List Bs} {N : Hl} {rest : List Hl} {u : Bs} {j : Nat} (hH : HS M w0 w (N :: rest)) (hO : OwD e v ls N) (hd : Dg ls) (he : TI P t 32 bb z)
    (hx : E.ev x = some (.pointer (some (v.cellAt (j * 32))))) (hy : E.ev y = some (.agg (u.map B8).toArray)) (hj : j < ls.length) (hu : u.length = 32) :
    Lo P E (.store t x y) ty w (fun _ w' => ∃ N', OwD e v (ls.set j u) N' ∧ HS M w0 w' (N' :: rest)) := by
  have hlen := dc_length hd
  rcases hO.2 with ⟨rfl, h0, _⟩ | ⟨b, off, cap, pre, sp, fr, rfl, rfl, hoff, hcap, hsp, hfr⟩
  · omega
  · have hx' : E.ev x = some (.pointer (some ⟨b, off + j * 32, none⟩)) := hx
    have := lo_store (ty := ty) (t := t) (y := y) hH he hx' hy (by simpa [Value.cells] using hu) (by simp; omega) hfr (by simpa [Value.cells] using one_B8 u)
    have hl2 := dc_length (hd.set j hu)
    simp only [List.length_set] at hl2
    refine this.mono fun _ w' hw => ⟨_, ⟨by simp [hl2], .inr ⟨b, off, cap, pre, sp, fr, by simp, rfl, hoff, by simpa using hcap, by simpa using hsp, ?_⟩⟩, ?_⟩
    · have : (pre ++ dc (ls.set j u) ++ sp).length = (pre ++ dc ls ++ sp).length := by simp [hl2, hlen]
      rw [this]
      exact hfr
    · have e2 : putAt (pre ++ dc ls ++ sp) (off + j * 32) (u.map B8) = pre ++ dc (ls.set j u) ++ sp := by
        rw [putAt_eq _ _ _ (by simp; omega), ← dc_put hd hj hu, ← hoff]
        simp only [List.append_assoc, List.length_map, hu]
        rw [List.take_append, List.drop_append]
        simp only [Nat.add_sub_cancel_left]
        rw [List.take_of_length_le (by omega), List.drop_eq_nil_of_le (by omega), List.take_append_of_le_length (by omega)]
        have e3 : pre.length + j * 32 + 32 - pre.length = j * 32 + 32 := by omega
        rw [e3, List.nil_append, List.drop_append_of_le_length (by omega)]
        simp only [List.append_assoc]
      have hw' := hw
      simp only [Value.cells] at hw'
      rw [e2] at hw'
      exact hw'
end

theorem abv_1 (a : Bs) (h : a.length = 32) : putAt (((List.replicate 65 0#8).set 0 3#8).map B8) 1 ((a.map B8).take (min 32 64 * 1)) = (3#8 :: (a ++ List.replicate 32 0#8)).map B8 := by
  have e : (a.map B8).take (min 32 64 * 1) = a.map B8 := List.take_of_length_le (by simp [h])
  have e2 : (List.replicate 65 0#8).set 0 3#8 = 3#8 :: List.replicate 64 0#8 := rfl
  rw [e, putAt_eq _ _ _ (by simp [h]), e2, List.length_map, h]
  show [B8 3#8] ++ a.map B8 ++ ((List.replicate 64 0#8).map B8).drop 32 = _
  rw [List.map_replicate, List.drop_replicate]
  simp
theorem abv_2 (a b : Bs) (ha : a.length = 32) (h : b.length = 32) : putAt ((3#8 :: (a ++ List.replicate 32 0#8)).map B8) 33 ((b.map B8).take (min 32 32 * 1)) = (3#8 :: (a ++ b)).map B8 := by
  have e : (b.map B8).take (min 32 32 * 1) = b.map B8 := List.take_of_length_le (by simp [h])
  rw [e, putAt_eq _ _ _ (by simp [h, ha])]
  simp only [List.map_cons, List.map_append, List.length_map, h, List.take_succ_cons, List.drop_succ_cons]
  rw [List.take_append_of_le_length (by simp [ha]), List.take_of_length_le (by simp [ha]), List.drop_eq_nil_of_le (by simp [ha])]
  simp
/-! ### the tree -/
/-- the node above two -/
def ab (a b : Bs) : Bs := sha (3#8 :: (a ++ b))
@[simp] theorem ab_length (a b : Bs) : (ab a b).length = 32 := by simp [ab]
/-- the level above -/
def lvl (ls : List Bs) : List Bs := (List.range (ls.length / 2)).map fun i => ab (ls.getD (2 * i) []) (ls.getD (2 * i + 1) [])
@[simp] theorem lvl_length (ls : List Bs) : (lvl ls).length = ls.length / 2 := by simp [lvl]
theorem lvl_dg (ls : List Bs) : Dg (lvl ls) := fun x hx => by
  obtain ⟨i, _, rfl⟩ := List.mem_map.1 hx
  simp
/-- where a leaf leads up the first k nodes -/
def clm (p : Bs) (i : Nat) (ds : List Bs) : Nat → Bs
  | 0 => p
  | k + 1 => if i / 2 ^ k % 2 = 0 then ab (clm p i ds k) (ds.getD k []) else ab (ds.getD k []) (clm p i ds k)
theorem clm_length {p : Bs} (h : p.length = 32) (i : Nat) (ds : List Bs) : ∀ k, (clm p i ds k).length = 32
  | 0 => h
  | k + 1 => by
    rw [clm]
    split <;> simp
theorem clm_e (p : Bs) (i : Nat) (ds : List Bs) {k : Nat} (h : i / 2 ^ k % 2 = 0) : clm p i ds (k + 1) = ab (clm p i ds k) (ds.getD k []) := by rw [clm, if_pos h]
theorem clm_o (p : Bs) (i : Nat) (ds : List Bs) {k : Nat} (h : ¬ i / 2 ^ k % 2 = 0) : clm p i ds (k + 1) = ab (ds.getD k []) (clm p i ds k) := by rw [clm, if_neg h]
theorem ishr_cast (i k : Nat) : ((i : Int) / 2 ^ k) = ((i / 2 ^ k : Nat) : Int) := by simp
theorem ishr_zero {i n : Nat} (h : i < 2 ^ n) : ((i : Int) / 2 ^ n) = 0 := by
  rw [ishr_cast, Nat.div_eq_of_lt h]; rfl
theorem ishr_pos {i : Int} {n : Nat} (h : (2 : Int) ^ n ≤ i) : i / 2 ^ n ≠ 0 := by
  have h2 : (0 : Int) < 2 ^ n := Int.pow_pos (by decide)
  have := Int.le_ediv_of_mul_le h2 (a := 1) (b := i) (by omega)
  omega
theorem and1 (i : Nat) : i &&& 1 = i % 2 := Nat.and_one_is_mod i
theorem half_pow (i k : Nat) : ((i / 2 ^ k : Nat) : Int) / 2 = ((i / 2 ^ (k + 1) : Nat) : Int) := by
  rw [Nat.pow_succ, ← Nat.div_div_eq_div_mul]; simp
/-- the levels above -/
def lvls (ls : List Bs) : Nat → List Bs
  | 0 => ls
  | j + 1 => lvl (lvls ls j)
theorem lvls_length {ls : List Bs} {m : Nat} (h : ls.length = 2 ^ m) : ∀ {j : Nat}, j ≤ m → (lvls ls j).length = 2 ^ (m - j)
  | 0, _ => h
  | j + 1, hj => by
    rw [lvls, lvl_length, lvls_length h (by omega), show m - j = (m - (j + 1)) + 1 by omega, Nat.pow_succ]
    omega
theorem lvls_dg {ls : List Bs} (h : Dg ls) : ∀ j, Dg (lvls ls j)
  | 0 => h
  | _ + 1 => lvl_dg _
/-- the first i of the level above -/
def lvlTo (ls : List Bs) (i : Nat) : List Bs := (lvl ls).take i ++ List.replicate (ls.length / 2 - i) (List.replicate 32 0#8)
theorem lvlTo_length (ls : List Bs) {i : Nat} (h : i ≤ ls.length / 2) : (lvlTo ls i).length = ls.length / 2 := by simp [lvlTo]; omega
theorem lvlTo_dg (ls : List Bs) (i : Nat) : Dg (lvlTo ls i) := (lvl_dg ls).take i |>.append fun x hx => by
  rw [List.eq_of_mem_replicate hx]; simp
theorem lvlTo_set (ls : List Bs) {i : Nat} (h : i < ls.length / 2) : (lvlTo ls i).set i (ab (ls.getD (2 * i) []) (ls.getD (2 * i + 1) [])) = lvlTo ls (i + 1) := by
  have hl : ((lvl ls).take i).length = i := by simp; omega
  have e : ls.length / 2 - i = (ls.length / 2 - (i + 1)) + 1 := by omega
  rw [lvlTo, List.set_append_right _ _ (by omega), hl, Nat.sub_self, e, List.replicate_succ, List.set_cons_zero, lvlTo, take_snoc (d := []) (lvl ls) (by simp; omega)]
  have : (lvl ls).getD i [] = ab (ls.getD (2 * i) []) (ls.getD (2 * i + 1) []) := by simp [lvl, List.getD, h]
  rw [this]
  simp
theorem lvlTo_end (ls : List Bs) : lvlTo ls (ls.length / 2) = lvl ls := by
  rw [lvlTo, List.take_of_length_le (by simp), Nat.sub_self]; simp
theorem mk_lvl0 {e : Nat} {v : Value} {ls : List Bs} {z : List Value} {N : Hl} (h : Own e 32 v (ls.length / 2) (List.replicate (ls.length / 2) z).flatten N) (hz : z = (List.replicate 32 0#8).map B8) : OwD e v (lvlTo ls 0) N := by
  have e1 : dc (lvlTo ls 0) = (List.replicate (ls.length / 2) z).flatten := by
    subst hz
    simp [lvlTo, dc, List.flatMap_replicate]
  unfold OwD
  rw [lvlTo_length ls (Nat.zero_le _), e1]
  exact h
theorem pow_and : ∀ m, m ≤ 10 → 2 ^ m &&& (2 ^ m - 1) = 0 := by
  intro m hm
  have : ∀ m : Fin 11, 2 ^ m.val &&& (2 ^ m.val - 1) = 0 := by decide
  exact this ⟨m, by omega⟩
theorem pow_le {m : Nat} (h : m ≤ 10) : 2 ^ m ≤ 1024 := Nat.pow_le_pow_right (n := 2) (by decide) h
theorem pow_one {k : Nat} (h : ¬ 1 < 2 ^ k) : k = 0 := by
  cases k with
  | zero => rfl
  | succ k => have := Nat.pow_pos (n := k) (show 0 < 2 by decide); rw [Nat.pow_succ] at h; omega
theorem awake6_ne : ab ((List.replicate 32 0#8).set 0 1#8) ((List.replicate 32 0#8).set 0 2#8) ≠ List.replicate 32 0#8 := by decide +kernel
end Go.Proofs.YthhdilafnfcpbaaDoor
/- Plain laws of layer 6: a path in two parts. -/
namespace Go.Proofs.YthhdilafnfcpbaaDoor
open Go
theorem bit_mod (i : Nat) {j k : Nat} (h : j < k) : i % 2 ^ k / 2 ^ j % 2 = i / 2 ^ j % 2 := by
  have h1 := Nat.testBit_mod_two_pow i k j
  simp only [Nat.testBit_eq_decide_div_mod_eq, h, decide_true, Bool.true_and, decide_eq_decide] at h1
  have a := Nat.mod_lt (i % 2 ^ k / 2 ^ j) (show 0 < 2 by decide)
  have b := Nat.mod_lt (i / 2 ^ j) (show 0 < 2 by decide)
  omega
theorem clm_low (p : Bs) (i : Nat) (ds : List Bs) {k : Nat} : ∀ {j : Nat}, j ≤ k → clm p (i % 2 ^ k) (ds.take k) j = clm p i ds j
  | 0, _ => rfl
  | j + 1, h => by
    have hg : (ds.take k).getD j [] = ds.getD j [] := by simp [List.getD, show j < k by omega]
    rw [clm, clm, clm_low p i ds (by omega), bit_mod i (by omega), hg]
theorem clm_high (p : Bs) (i : Nat) (ds : List Bs) (k : Nat) : ∀ j : Nat, clm (clm p i ds k) (i / 2 ^ k) (ds.drop k) j = clm p i ds (k + j)
  | 0 => rfl
  | j + 1 => by
    have hg : (ds.drop k).getD j [] = ds.getD (k + j) [] := by simp [List.getD, List.getElem?_drop]
    rw [clm, clm_high p i ds k j, ← Nat.add_assoc, clm, Nat.div_div_eq_div_mul, ← Nat.pow_add, hg]
theorem clm_parts (p : Bs) (i : Nat) (ds : List Bs) {k : Nat} (h : k ≤ ds.length) : clm (clm p (i % 2 ^ k) (ds.take k) k) (i / 2 ^ k) (ds.drop k) (ds.length - k) = clm p i ds ds.length := by
  rw [clm_low p i ds (Nat.le_refl k), clm_high, show k + (ds.length - k) = ds.length by omega]
theorem clm_quo {i k n qk qn : Nat} (h : k ≤ n) (hk : qk = 2 ^ k) (hn : qn = 2 ^ n) (hi : i < qn) : i / qk < 2 ^ (n - k) := by
  subst hk hn
  apply Nat.div_lt_of_lt_mul
  rw [← Nat.pow_add, show k + (n - k) = n by omega]
  exact hi
theorem RdD.takeOf {M : List Nat} {w : World} {v : Value} {ds : List Bs} {k : Nat} (hd : Dg ds) (hk : k ≤ ds.length) (h : Rd M w v (k - 0) 32 (((dc ds).drop (0 * 32)).take ((k - 0) * 32))) : RdD M w v (ds.take k) := by
  unfold RdD
  rw [List.length_take, Nat.min_eq_left hk, ← dc_take hd k hk]
  simpa using h
theorem RdD.dropOf {M : List Nat} {w : World} {v : Value} {ds : List Bs} {k : Nat} (hd : Dg ds) (hk : k ≤ ds.length) (h : Rd M w v (ds.length - k) 32 (((dc ds).drop (k * 32)).take ((ds.length - k) * 32))) : RdD M w v (ds.drop k) := by
  unfold RdD
  have hl := dc_length (hd.drop k)
  rw [dc_drop hd k hk, List.take_of_length_le (by rw [hl, List.length_drop]; exact Nat.le_refl _)] at h
  rw [List.length_drop]
  exact h
theorem climb_at {P : Program} {f : FuncId} {args : Array Value} {w0 : World} {p : Bs} {i : Nat} {ds : List Bs} {k : Nat} (h : Calls P f args w0 (Ret fun r w' => r = .tuple #[.agg ((clm p i ds ds.length).map B8).toArray, I 0] ∧ HS [] w0 w' [])) (hk : ds.length = k) :
    Calls P f args w0 (Ret fun r w' => r = .tuple #[.agg ((clm p i ds k).map B8).toArray, I 0] ∧ HS [] w0 w' []) := by
  rw [hk] at h
  exact h
end Go.Proofs.YthhdilafnfcpbaaDoor
/- Plain laws of layer 6: a tree's halves. -/
namespace Go.Proofs.YthhdilafnfcpbaaDoor
open Go
theorem lvl_append (a b : List Bs) (h : a.length % 2 = 0) : lvl (a ++ b) = lvl a ++ lvl b := by
  apply List.ext_getElem?
  intro i
  simp only [lvl, List.getElem?_append, List.getElem?_map, List.length_append, List.length_map, List.length_range]
  by_cases h1 : i < a.length / 2
  · have h2 : i < (a.length + b.length) / 2 := by omega
    have e1 : (a ++ b).getD (2 * i) [] = a.getD (2 * i) [] := by simp [List.getD, List.getElem?_append, show 2 * i < a.length by omega]
    have e2 : (a ++ b).getD (2 * i + 1) [] = a.getD (2 * i + 1) [] := by simp [List.getD, List.getElem?_append, show 2 * i + 1 < a.length by omega]
    simp only [h1, h2, if_true, List.getElem?_range, Option.map_some, e1, e2]
  · by_cases h2 : i < (a.length + b.length) / 2
    · have h3 : i - a.length / 2 < b.length / 2 := by omega
      have e1 : (a ++ b).getD (2 * i) [] = b.getD (2 * (i - a.length / 2)) [] := by
        simp only [List.getD, List.getElem?_append, if_neg (show ¬ 2 * i < a.length by omega)]
        rw [show 2 * i - a.length = 2 * (i - a.length / 2) by omega]
      have e2 : (a ++ b).getD (2 * i + 1) [] = b.getD (2 * (i - a.length / 2) + 1) [] := by
        simp only [List.getD, List.getElem?_append, if_neg (show ¬ 2 * i + 1 < a.length by omega)]
        rw [show 2 * i + 1 - a.length = 2 * (i - a.length / 2) + 1 by omega]
      simp only [h1, h2, h3, if_false, List.getElem?_range, Option.map_some, e1, e2]
    · have h3 : ¬ i - a.length / 2 < b.length / 2 := by omega
      simp [h1, h2, h3]
theorem lvls_append {a b : List Bs} {m : Nat} (ha : a.length = 2 ^ m) : ∀ {j : Nat}, j ≤ m → lvls (a ++ b) j = lvls a j ++ lvls b j
  | 0, _ => rfl
  | j + 1, h => by
    rw [lvls, lvls_append ha (by omega), lvl_append _ _ (by rw [lvls_length ha (by omega), show m - j = (m - (j + 1)) + 1 by omega, Nat.pow_succ]; omega)]
    rfl
theorem one_of {l : List Bs} (h : l.length = 1) : l = [l.getD 0 []] := by
  match l, h with
  | [x], _ => rfl
/-- a tree's root is the node above the roots of its halves -/
theorem root_halves {a b : List Bs} {m : Nat} (ha : a.length = 2 ^ m) (hb : b.length = 2 ^ m) : (lvls (a ++ b) (m + 1)).getD 0 [] = ab ((lvls a m).getD 0 []) ((lvls b m).getD 0 []) := by
  have h1 := lvls_length ha (Nat.le_refl m)
  have h2 := lvls_length hb (Nat.le_refl m)
  rw [Nat.sub_self] at h1 h2
  rw [lvls, lvls_append ha (Nat.le_refl m), one_of h1, one_of h2]
  generalize (lvls a m).getD 0 [] = x
  generalize (lvls b m).getD 0 [] = y
  simp [lvl]
theorem OwD.takeOf {E : Nat} {v : Value} {ds : List Bs} {k : Nat} {N : Hl} (hd : Dg ds) (hk : k ≤ ds.length) (h : Own E 32 v (k - 0) (((dc ds).drop (0 * 32)).take ((k - 0) * 32)) N) : OwD E v (ds.take k) N := by
  unfold OwD
  rw [List.length_take, Nat.min_eq_left hk, ← dc_take hd k hk]
  simpa using h
theorem OwD.dropOf {E : Nat} {v : Value} {ds : List Bs} {k : Nat} {N : Hl} (hd : Dg ds) (hk : k ≤ ds.length) (h : Own E 32 v (ds.length - k) (((dc ds).drop (k * 32)).take ((ds.length - k) * 32)) N) : OwD E v (ds.drop k) N := by
  unfold OwD
  have hl := dc_length (hd.drop k)
  rw [dc_drop hd k hk, List.take_of_length_le (by rw [hl, List.length_drop]; exact Nat.le_refl _)] at h
  rw [List.length_drop]
  exact h
end Go.Proofs.YthhdilafnfcpbaaDoor
/- Plain laws of layer 6: lengths that are powers of two; a leaf's path. -/
namespace Go.Proofs.YthhdilafnfcpbaaDoor
open Go
theorem pow_of_and {n : Nat} (h0 : 0 < n) (h1 : n ≤ 1024) (h2 : n &&& (n - 1) = 0) : ∃ m, m ≤ 10 ∧ n = 2 ^ m := by
  have h : ∀ n : Fin 1025, 0 < n.val → n.val &&& (n.val - 1) = 0 → ∃ m : Fin 11, n.val = 2 ^ m.val := by decide +kernel
  obtain ⟨m, hm⟩ := h ⟨n, by omega⟩ h0 h2
  exact ⟨m.val, by omega, hm⟩
theorem xor1_div (x : Nat) : (x ^^^ 1) / 2 = x / 2 := by rw [Nat.xor_div_two]; simp
theorem xor1_mod (x : Nat) : (x ^^^ 1) % 2 = (x + 1) % 2 := by
  have h := Nat.xor_mod_two_pow (a := x) (b := 1) (n := 1)
  rw [Nat.pow_one] at h
  rw [h]
  rcases Nat.mod_two_eq_zero_or_one x with h1 | h1
  · rw [h1, Nat.add_mod, h1]; rfl
  · rw [h1, Nat.add_mod, h1]; rfl
theorem xor1_e {x : Nat} (h : x % 2 = 0) : x ^^^ 1 = x + 1 := by
  have := xor1_div x; have := xor1_mod x; omega
theorem xor1_o {x : Nat} (h : ¬ x % 2 = 0) : x ^^^ 1 = x - 1 := by
  have := xor1_div x; have := xor1_mod x; omega
/-- a tree's root -/
def rt (ls : List Bs) (m : Nat) : Bs := (lvls ls m).getD 0 []
theorem rt_length {ls : List Bs} (hd : Dg ls) {m : Nat} (h : ls.length = 2 ^ m) : (rt ls m).length = 32 :=
  (lvls_dg hd m).getD (by rw [lvls_length h (Nat.le_refl _)]; exact Nat.pow_pos (by decide))
theorem rt_zero (x : Bs) : rt [x] 0 = x := rfl
theorem rt_one {ls : List Bs} : rt ls 0 = ls.getD 0 [] := rfl
theorem rt_halves {a b : List Bs} {m : Nat} (ha : a.length = 2 ^ m) (hb : b.length = 2 ^ m) : rt (a ++ b) (m + 1) = ab (rt a m) (rt b m) := root_halves ha hb
theorem rt_split {ls : List Bs} {m : Nat} (h : ls.length = 2 ^ (m + 1)) : rt ls (m + 1) = ab (rt (ls.take (2 ^ m)) m) (rt (ls.drop (2 ^ m)) m) := by
  rw [Nat.pow_succ] at h
  have e := rt_halves (a := ls.take (2 ^ m)) (b := ls.drop (2 ^ m)) (m := m) (by rw [List.length_take]; omega) (by rw [List.length_drop]; omega)
  rw [List.take_append_drop] at e
  exact e
/-- a leaf's path, its first k digests -/
def pth (ls : List Bs) (i : Nat) : Nat → List Bs
  | 0 => []
  | k + 1 => pth ls i k ++ [(lvls ls k).getD (i / 2 ^ k ^^^ 1) []]
@[simp] theorem pth_length (ls : List Bs) (i : Nat) : ∀ k, (pth ls i k).length = k
  | 0 => rfl
  | k + 1 => by simp [pth, pth_length ls i k]
theorem idx_lt {i k m : Nat} (hi : i < 2 ^ m) (hk : k < m) : i / 2 ^ k ^^^ 1 < 2 ^ (m - k) := by
  have h1 : i / 2 ^ k < 2 ^ (m - k) := by
    apply Nat.div_lt_of_lt_mul
    rw [← Nat.pow_add, show k + (m - k) = m by omega]
    exact hi
  have h2 : 1 < 2 ^ (m - k) := Nat.one_lt_two_pow (by omega)
  exact Nat.xor_lt_two_pow h1 h2
theorem pth_at {ls : List Bs} (i : Nat) {j : Nat} : ∀ {k : Nat}, j < k → (pth ls i k).getD j [] = (lvls ls j).getD (i / 2 ^ j ^^^ 1) []
  | 0, h => by omega
  | k + 1, h => by
    rw [pth]
    by_cases hj : j < k
    · have := pth_at (ls := ls) i hj
      rw [← this]
      simp [List.getD, List.getElem?_append, hj]
    · obtain rfl : j = k := by omega
      simp [List.getD]
theorem pth_dg {ls : List Bs} (hd : Dg ls) {i m : Nat} (h : ls.length = 2 ^ m) (hi : i < 2 ^ m) : ∀ {k : Nat}, k ≤ m → Dg (pth ls i k)
  | 0, _ => Dg.nil
  | k + 1, hk => (pth_dg hd h hi (by omega)).append (Dg.one ((lvls_dg hd k).getD (by rw [lvls_length h (by omega)]; exact idx_lt hi (by omega))))
theorem pth_lo {a b : List Bs} {i m : Nat} (ha : a.length = 2 ^ m) (hi : i < 2 ^ m) : ∀ {k : Nat}, k ≤ m → pth (a ++ b) i k = pth a i k
  | 0, _ => rfl
  | k + 1, hk => by
    have h1 := lvls_length ha (j := k) (by omega)
    have h2 := idx_lt (k := k) hi (by omega)
    rw [pth, pth, pth_lo ha hi (by omega), lvls_append ha (by omega)]
    simp [List.getD, List.getElem?_append, h1, h2]
theorem pth_hi {a b : List Bs} {i m : Nat} (ha : a.length = 2 ^ m) : ∀ {k : Nat}, k ≤ m → pth (a ++ b) (2 ^ m + i) k = pth b i k
  | 0, _ => rfl
  | k + 1, hk => by
    have h1 := lvls_length ha (j := k) (by omega)
    have e1 : (2 ^ m + i) / 2 ^ k = 2 ^ (m - k) + i / 2 ^ k := by
      rw [show 2 ^ m = 2 ^ (m - k) * 2 ^ k by rw [← Nat.pow_add]; congr 1; omega, Nat.mul_comm, Nat.mul_add_div (Nat.pow_pos (by decide))]
    have e2 : (2 ^ (m - k) + i / 2 ^ k) ^^^ 1 = 2 ^ (m - k) + (i / 2 ^ k ^^^ 1) := by
      obtain ⟨q, hq⟩ : ∃ q, 2 ^ (m - k) = 2 * q := ⟨2 ^ (m - k - 1), by rw [Nat.mul_comm, ← Nat.pow_succ]; congr 1; omega⟩
      have a1 := xor1_div (2 ^ (m - k) + i / 2 ^ k); have a2 := xor1_mod (2 ^ (m - k) + i / 2 ^ k)
      have b1 := xor1_div (i / 2 ^ k); have b2 := xor1_mod (i / 2 ^ k)
      omega
    rw [pth, pth, pth_hi ha (by omega), lvls_append ha (by omega), e1, e2]
    have e3 : ¬ 2 ^ (m - k) + (i / 2 ^ k ^^^ 1) < 2 ^ (m - k) := by omega
    simp [List.getD, List.getElem?_append, h1, e3]
/-- a leaf's path in a tree of two halves -/
theorem pth_left {a b : List Bs} {i m : Nat} (ha : a.length = 2 ^ m) (hi : i < 2 ^ m) : pth (a ++ b) i (m + 1) = pth a i m ++ [rt b m] := by
  have h1 := lvls_length ha (Nat.le_refl m)
  rw [Nat.sub_self] at h1
  rw [pth, pth_lo ha hi (Nat.le_refl m), lvls_append ha (Nat.le_refl m), Nat.div_eq_of_lt hi]
  simp [rt, List.getD, List.getElem?_append, h1]
theorem pth_right {a b : List Bs} {i m : Nat} (ha : a.length = 2 ^ m) (h : 2 ^ m ≤ i) (hi : i < 2 ^ (m + 1)) : pth (a ++ b) i (m + 1) = pth b (i - 2 ^ m) m ++ [rt a m] := by
  have h1 := lvls_length ha (Nat.le_refl m)
  rw [Nat.sub_self] at h1
  rw [Nat.pow_succ] at hi
  obtain ⟨j, rfl⟩ : ∃ j, i = 2 ^ m + j := ⟨i - 2 ^ m, by omega⟩
  have e : (2 ^ m + j) / 2 ^ m = 1 := by rw [Nat.add_div_left _ (Nat.pow_pos (by decide)), Nat.div_eq_of_lt (by omega)]
  rw [pth, pth_hi ha (Nat.le_refl m), lvls_append ha (Nat.le_refl m), e, Nat.add_sub_cancel_left]
  simp [rt, List.getD, List.getElem?_append, h1]
theorem pth_l {ls : List Bs} {i m : Nat} (h : ls.length = 2 ^ (m + 1)) (hi : i < 2 ^ m) : pth ls i (m + 1) = pth (ls.take (2 ^ m)) i m ++ [rt (ls.drop (2 ^ m)) m] := by
  rw [Nat.pow_succ] at h
  have e := pth_left (a := ls.take (2 ^ m)) (b := ls.drop (2 ^ m)) (m := m) (i := i) (by rw [List.length_take]; omega) hi
  rwa [List.take_append_drop] at e
theorem pth_r {ls : List Bs} {i m : Nat} (h : ls.length = 2 ^ (m + 1)) (hi : 2 ^ m ≤ i) (hi2 : i < 2 ^ (m + 1)) : pth ls i (m + 1) = pth (ls.drop (2 ^ m)) (i - 2 ^ m) m ++ [rt (ls.take (2 ^ m)) m] := by
  rw [Nat.pow_succ] at h
  have e := pth_right (a := ls.take (2 ^ m)) (b := ls.drop (2 ^ m)) (m := m) (i := i) (by rw [List.length_take]; omega) hi hi2
  rwa [List.take_append_drop] at e
theorem lvl_at {l : List Bs} {x : Nat} (h : x / 2 < l.length / 2) : (lvl l).getD (x / 2) [] = ab (l.getD (2 * (x / 2)) []) (l.getD (2 * (x / 2) + 1) []) := by
  simp [lvl, List.getD, h]
/-- up its path a leaf leads to each level's node above it -/
theorem clm_pth {ls : List Bs} {i m : Nat} (h : ls.length = 2 ^ m) (hi : i < 2 ^ m) : ∀ {k : Nat}, k ≤ m → clm (ls.getD i []) i (pth ls i m) k = (lvls ls k).getD (i / 2 ^ k) []
  | 0, _ => by simp [clm, lvls]
  | k + 1, hk => by
    have h1 := lvls_length h (j := k) (by omega)
    have h2 : i / 2 ^ k < 2 ^ (m - k) := by
      apply Nat.div_lt_of_lt_mul
      rw [← Nat.pow_add, show k + (m - k) = m by omega]
      exact hi
    have h3 : 2 ^ (m - k) = 2 * 2 ^ (m - k - 1) := by rw [Nat.mul_comm, ← Nat.pow_succ]; congr 1; omega
    rw [clm, clm_pth h hi (by omega), pth_at i (by omega), lvls, Nat.pow_succ, ← Nat.div_div_eq_div_mul]
    generalize i / 2 ^ k = x at h2 ⊢
    rw [lvl_at (by rw [h1]; omega)]
    by_cases he : x % 2 = 0
    · rw [if_pos he, xor1_e he, show 2 * (x / 2) = x by omega]
    · rw [if_neg he, xor1_o he, show 2 * (x / 2) = x - 1 by omega, show x - 1 + 1 = x by omega]
theorem clm_root {ls : List Bs} {i m : Nat} (h : ls.length = 2 ^ m) (hi : i < 2 ^ m) : clm (ls.getD i []) i (pth ls i m) m = rt ls m := by
  rw [clm_pth h hi (Nat.le_refl m), Nat.div_eq_of_lt hi, rt]
theorem pow_le10 {j : Nat} (h : 2 ^ j ≤ 1024) : j ≤ 10 := (Nat.pow_le_pow_iff_right (a := 2) (by decide)).1 (by simpa using h)
/-- may a tree have so many leaves? -/
def Pw (n : Nat) : Prop := ∃ m, m ≤ 10 ∧ n = 2 ^ m
open Classical in
/-- a tree's root, or the error -/
noncomputable def rootV (ls : List Bs) : Bs × Nat := if Pw ls.length then (rt ls ls.length.log2, 0) else (List.replicate 32 0#8, 1)
theorem rootV_ok {ls : List Bs} {m : Nat} (hm : m ≤ 10) (h : ls.length = 2 ^ m) : rootV ls = (rt ls m, 0) := by
  rw [rootV, if_pos ⟨m, hm, h⟩, h, Nat.log2_two_pow]
theorem rootV_bad {ls : List Bs} (h : ¬ Pw ls.length) : rootV ls = (List.replicate 32 0#8, 1) := by rw [rootV, if_neg h]
theorem rootV_length {ls : List Bs} (hd : Dg ls) : (rootV ls).1.length = 32 := by
  by_cases h : Pw ls.length
  · obtain ⟨m, hm, h⟩ := h
    rw [rootV_ok hm h]
    exact rt_length hd h
  · rw [rootV_bad h]; simp
open Classical in
/-- a leaf's path, or the error -/
noncomputable def pathV (ls : List Bs) (i : Int) : List Bs × Nat := if Pw ls.length ∧ 0 ≤ i ∧ i < ls.length then (pth ls i.toNat ls.length.log2, 0) else ([], 1)
theorem pathV_ok {ls : List Bs} {m i : Nat} (hm : m ≤ 10) (h : ls.length = 2 ^ m) (hi : i < 2 ^ m) : pathV ls i = (pth ls i m, 0) := by
  rw [pathV, if_pos ⟨⟨m, hm, h⟩, by omega, by omega⟩, h, Nat.log2_two_pow]
  rfl
theorem pathV_bad {ls : List Bs} {i : Int} (h : ¬ Pw ls.length ∨ i < 0 ∨ (ls.length : Int) ≤ i) : pathV ls i = ([], 1) := by
  rw [pathV, if_neg]
  rintro ⟨h1, h2, h3⟩
  rcases h with h | h | h
  · exact h h1
  · omega
  · omega
theorem pathV_dg {ls : List Bs} (hd : Dg ls) (i : Int) : Dg (pathV ls i).1 := by
  by_cases h : Pw ls.length ∧ 0 ≤ i ∧ i < ls.length
  · obtain ⟨⟨m, hm, h⟩, h2, h3⟩ := h
    obtain ⟨j, rfl⟩ : ∃ j : Nat, i = j := ⟨i.toNat, by omega⟩
    rw [pathV_ok hm h (by omega)]
    exact pth_dg hd h (by omega) (Nat.le_refl m)
  · rw [pathV, if_neg h]
    exact Dg.nil
theorem pathV_len (ls : List Bs) (i : Int) : (pathV ls i).1.length ≤ 10 := by
  by_cases h : Pw ls.length ∧ 0 ≤ i ∧ i < ls.length
  · obtain ⟨⟨m, hm, h⟩, h2, h3⟩ := h
    obtain ⟨j, rfl⟩ : ∃ j : Nat, i = j := ⟨i.toNat, by omega⟩
    rw [pathV_ok hm h (by omega)]
    simpa using hm
  · rw [pathV, if_neg h]
    simp
end Go.Proofs.YthhdilafnfcpbaaDoor
