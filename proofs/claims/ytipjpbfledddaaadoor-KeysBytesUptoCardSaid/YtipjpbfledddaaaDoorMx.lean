/- More operations: literals whose parts are aggregates; digests appended to a row. -/
import Derived.Test.YtipjpbfledddaaaDoorMt
import Derived.Test.YtipjpbfledddaaaDoorLl
import Derived.Scope
import Derived.Laws.Tables
namespace Go.Proofs.YtipjpbfledddaaaDoor
open Go
set_option linter.unusedVariables false
set_option linter.unusedSimpArgs false
theorem Dg.two {x y : Bs} (h : x.length = 32) (h2 : y.length = 32) : Dg [x, y] := by simpa [Dg] using ⟨h, h2⟩

theorem At.decT {n d : Nat} {E : Env} {a : Act} {p : Prop} [Decidable p] (hA : At n ((d, .bool (decide p)) :: E) a) (h : p) : At n ((d, .bool true) :: E) a := by rwa [decide_eq_true h] at hA
theorem At.decF {n d : Nat} {E : Env} {a : Act} {p : Prop} [Decidable p] (hA : At n ((d, .bool (decide p)) :: E) a) (h : ¬ p) : At n ((d, .bool false) :: E) a := by rwa [decide_eq_false h] at hA
theorem At.spl {n d : Nat} {E : Env} {a : Act} {p G : Prop} [Decidable p] (hA : At n ((d, .bool (decide p)) :: E) a) (h1 : p → At n ((d, .bool true) :: E) a → G) (h2 : ¬ p → At n ((d, .bool false) :: E) a → G) : G := by
  by_cases h : p
  · exact h1 h (hA.decT h)
  · exact h2 h (hA.decF h)
section
variable {P : Program} {ops : Array Oper} {Q : Exit → Act → World → Prop} {rest : List Oper} {n : Nat} {E : Env} {a : Act} {w : World} {d : Nat} {op : Op} {ty : TypeId} {pos : String} {af : Array Edge}
/-- guarded, and not wanted: the slot is empty -/
theorem gsU (hA : At n E a) {g t : Nat} {b b' : Bool} (hops : (ops[g]?).bind (·.dst) = some t) (ht : E.look t = some (.bool b')) (hne : (b' == b) = false)
    (hd : Nat.blt d n = true) (k : ∀ a', At n ((d, undef) :: E) a' → wpList P ops Q rest a' w) : wpList P ops Q (⟨some d, op, ty, pos, af, some (g, b)⟩ :: rest) a w := by
  refine wpList_step fun K hK => ?_
  rw [if_neg (by rw [wanted_of rfl hA hops ht, hne]; simp)]
  exact hK _ _ (k _ (hA.put hd _))
/-- guarded by an empty slot -/
theorem gs0U (hA : At n E a) {g t : Nat} {b : Bool} (hops : (ops[g]?).bind (·.dst) = some t) (ht : E.look t = some undef)
    (hd : Nat.blt d n = true) (k : ∀ a', At n ((d, undef) :: E) a' → wpList P ops Q rest a' w) : wpList P ops Q (⟨some d, op, ty, pos, af, some (g, b)⟩ :: rest) a w := by
  refine wpList_step fun K hK => ?_
  rw [if_neg (by simp [Region.wanted, yielded, hops, hA.sat t _ ht, undef])]
  exact hK _ _ (k _ (hA.put hd _))
end
theorem noGoto_ret {Q : Exit → Act → World → Prop} {a : Act} {w : World} (h : Q .ret a w) : Exit.noGoto Q .ret a w := h
theorem noGoto_normal {Q : Exit → Act → World → Prop} {a : Act} {w : World} (h : Q .normal a w) : Exit.noGoto Q .normal a w := h
theorem noGoto_exit {Q : Exit → Act → World → Prop} {id : Nat} {a : Act} {w : World} (h : Q (.exit id) a w) : Exit.noGoto Q (.exit id) a w := h
theorem a_ch3 {P : Program} {ops : Array Oper} {Q : Exit → Act → World → Prop} {S : World → Prop} {keep : Nat → Bool} {a : Act} {w : World} {listed : Array Bool} {fuel : Nat} {i j k : Nat} (hr : Region.ready .any ops listed = [i, j, k])
    (h1 : wpOne P ops Q S keep fuel listed a w i) (h2 : wpOne P ops Q S keep fuel listed a w j) (h3 : wpOne P ops Q S keep fuel listed a w k) : wpK P .any ops Q S keep (fuel + 1) listed a w := by
  refine ⟨fun h0 => (by rw [h0] at hr; cases hr), fun l hl => ?_⟩
  rw [hr] at hl
  simp only [List.mem_cons, List.not_mem_nil, or_false] at hl
  rcases hl with rfl | rfl | rfl
  · exact h1
  · exact h2
  · exact h3
theorem toNat_ofInt64 {n : Nat} (h : n < 18446744073709551616) : (BitVec.ofInt 64 (n : Int)).toNat = n := by
  rw [BitVec.ofInt_natCast, BitVec.toNat_ofNat]
  exact Nat.mod_eq_of_lt (by simpa using h)
theorem umod_pos {n : Nat} (h0 : 0 < n) (h : n ≤ 1048576) : 0 < (BitVec.ofInt 64 (n : Int)).toNat := by rw [toNat_ofInt64 (by omega)]; exact h0
theorem umod_lt (i : Int) {n : Nat} (h0 : 0 < n) (h : n ≤ 1048576) : (BitVec.ofInt 64 i % BitVec.ofInt 64 (n : Int)).toNat < n := by
  rw [BitVec.toNat_umod, toNat_ofInt64 (n := n) (by omega)]
  exact Nat.mod_lt _ h0
/-- a slice that was there when the function began, or one of its own -/
def RdOr (w0 : World) (e k : Nat) (v : Value) (n : Nat) (cs : List Value) (N : Hl) : Prop := (N = [] ∧ Rd [] w0 v n k cs) ∨ Own e k v n cs N
theorem RdOr.rd {w0 w : World} {e k : Nat} {v : Value} {n : Nat} {cs : List Value} {N : Hl} {Hs : List Hl} (h : RdOr w0 e k v n cs N) (hH : HS [] w0 w Hs) (i : Nat) (hi : nth? Hs i = some N) : Rd [] w v n k cs := by
  rcases h with ⟨_, h⟩ | h
  · exact hH.rd h
  · exact h.rd0 hH i hi
theorem RdOr.shp {w0 : World} {e k : Nat} {v : Value} {n : Nat} {cs : List Value} {N : Hl} (h : RdOr w0 e k v n cs N) : Shp v n := by
  rcases h with ⟨_, h⟩ | h
  · exact h.shp
  · exact h.shp
theorem foldl_cells : ∀ (vs c : List Value) (o k : Nat), o + k + vs.length ≤ c.length →
    ((vs.zipIdx k).foldl (fun cs (p : Value × Nat) => cs.setIfInBounds (o + p.2) p.1) c.toArray) = (putAt c (o + k) vs).toArray
  | [], c, o, k, _ => rfl
  | v :: vs, c, o, k, h => by
    simp only [List.length_cons] at h
    rw [List.zipIdx_cons, List.foldl_cons, List.setIfInBounds_toArray, foldl_cells vs (c.set (o + k) v) o (k + 1) (by simp; omega)]
    rfl
/-- a part is filled in -/
theorem fill_cons {place : Nat → Option (Nat × Nat)} {c : List Value} {i off size : Nat} {v : Value} {rest : List (Nat × Value)} (hp : place i = some (off, size)) (hs : v.cells.size = size) (hl : off + size ≤ c.length) :
    Instr.fill place c.toArray ((i, v) :: rest) = Instr.fill place (putAt c off v.cells.toList).toArray rest := by
  subst hs
  have h2 : ¬ (off + v.cells.size > c.toArray.size) := by simp; omega
  have e := foldl_cells v.cells.toList c off 0 (by simpa using hl)
  rw [Nat.add_zero] at e
  rw [← e]
  simp only [Instr.fill, hp]
  rw [if_neg (by simp only [ne_eq, not_true_eq_false, decide_false, Bool.false_or, decide_eq_true_eq]; exact h2)]
  congr 1
  rw [← Array.foldl_toList, Array.toList_zipIdx]
theorem one_I (l : List Int) : ∀ u ∈ l.map I, u.oneCell' = true := fun u hu => by
  obtain ⟨x, _, rfl⟩ := List.mem_map.1 hu; rfl
/-- a struct's places and its zero, as the tables have them -/
def BT (P : Program) (t : TypeId) (pl : List (Nat × Nat)) (z : List Value) : Prop := ∀ vs, P.built t vs = Instr.fill (pl.toArray[·]?) z.toArray vs
theorem BT.mk {P : Program} {t : TypeId} {pl : List (Nat × Nat)} {z : List Value} {it : TypeInfo} {fs : Array Field} (h1 : P.info? t = some it) (h2 : P.underlying t = some (.struct fs)) (h3 : it.zero = some (.agg z.toArray))
    (h4 : fs.toList.mapM (fun f => (P.info? f.type).map fun i => (f.offset, i.size)) = some pl) : BT P t pl z := fun vs => by
  simp only [Program.built, h1, h2, h3, h4]
  rfl
theorem cells_one {v : Value} (h : v.oneCell' = true) : v.cells.toList = [v] := by cases v <;> first | rfl | cases h
theorem Rd.one {M : List Nat} {w : World} {v : Value} {n k : Nat} {cs : List Value} (h : Rd M w v n k cs) : v.oneCell' = true := by
  obtain ⟨_, a, c, rfl, _⟩ := h; rfl
theorem RdOr.one {w0 : World} {e k : Nat} {v : Value} {n : Nat} {cs : List Value} {N : Hl} (h : RdOr w0 e k v n cs N) : v.oneCell' = true := by
  rcases h with ⟨_, h⟩ | h
  · exact h.one
  · exact h.one
/-- parts that fit into their places -/
def FitC (pl : List (Nat × Nat)) (m : Nat) : List (Nat × Value) → List (List Value) → Prop
  | [], [] => True
  | p :: vs, c :: css => p.2.cells.toList = c ∧ (∃ os : Nat × Nat, pl[p.1]? = some os ∧ c.length = os.2 ∧ os.1 + os.2 ≤ m) ∧ FitC pl m vs css
  | _, _ => False
/-- parts put in their places -/
def putL (pl : List (Nat × Nat)) : List Value → List (Nat × Value) → List (List Value) → List Value
  | z, p :: vs, c :: css => putL pl (putAt z (pl.getD p.1 (0, 0)).1 c) vs css
  | z, _, _ => z
theorem fill_put {pl : List (Nat × Nat)} : ∀ (vs : List (Nat × Value)) (css : List (List Value)) (z : List Value) (m : Nat), z.length = m → FitC pl m vs css → Instr.fill (pl.toArray[·]?) z.toArray vs = some (putL pl z vs css).toArray
  | [], [], _, _, _, _ => rfl
  | [], _ :: _, _, _, _, h => h.elim
  | _ :: _, [], _, _, _, h => h.elim
  | (i, v) :: vs, c :: css, z, m, hm, h => by
    obtain ⟨h1, ⟨⟨o, n⟩, h2, h3, h4⟩, h5⟩ := h
    simp only at h1 h2 h3 h4
    subst h1
    rw [fill_cons (off := o) (size := n) (by simpa using h2) (by simpa using h3) (by omega), fill_put vs css _ m (by rw [putAt_length]; exact hm) h5]
    have e : (pl.getD i (0, 0)).1 = o := by simp [List.getD, h2]
    rw [putL, e]
def numD : Nat → List Bs → List (Nat × Value)
  | _, [] => []
  | j, x :: r => (j, .agg (x.map B8).toArray) :: numD (j + 1) r
theorem putAt_mid (a b vs : List Value) (o : Nat) (ho : a.length = o) (hl : vs.length ≤ b.length) : putAt (a ++ b) o vs = a ++ vs ++ b.drop vs.length := by
  subst ho
  rw [putAt_eq _ _ _ (by simp; omega), List.take_left, List.drop_append]
  simp
theorem fill_numD : ∀ (ls : List Bs) (pre : List Bs) (z : List Value), Dg ls → Dg pre → ls.length * 32 = z.length →
    Instr.fill (fun i => some (i * 32, 32)) (dc pre ++ z).toArray (numD pre.length ls) = some (dc (pre ++ ls)).toArray
  | [], pre, z, _, _, hz => by
    have : z = [] := List.eq_nil_of_length_eq_zero (by simpa using hz.symm)
    subst this
    simp [numD, Instr.fill]
  | x :: ls, pre, z, hd, hp, hz => by
    have hx : x.length = 32 := hd x (by simp)
    have hpl := dc_length hp
    simp only [List.length_cons, Nat.add_mul] at hz
    have e : (Value.agg (x.map B8).toArray).cells.toList = x.map B8 := rfl
    rw [numD, fill_cons rfl (by simpa [Value.cells] using hx) (by simp; omega), e, putAt_mid _ _ _ _ hpl (by simp; omega), ← dc_one, ← dc_append]
    have := fill_numD ls (pre ++ [x]) (z.drop 32) (fun y hy => hd y (by simp [hy])) (hp.append (Dg.one hx)) (by simp; omega)
    rw [dc_one, List.length_map, hx]
    simpa using this
theorem OwD.nil (E : Nat) : OwD E (.slice none 0 0) [] [] := Own.nil E 32
/-- a whole number's cell -/
def In (n : Nat) : Value := I (n : Int)
theorem RdD.elem {M : List Nat} {w : World} {v : Value} {ls : List Bs} (h : RdD M w v ls) (hd : Dg ls) {i : Nat} (hi : i < ls.length) :
    ∃ b o, v.cellAt (i * 32) = ⟨b, o, none⟩ ∧ By M w (.slice (some ⟨b, o, none⟩) 32 32) (ls.getD i []) := by
  obtain ⟨h1, a, cap, rfl, h3, h4, h5⟩ := h
  cases a with
  | none => have := (h4 rfl).1; omega
  | some ad =>
    obtain ⟨h6, h7, arr, E, fr, h8, h9, h10⟩ := h5 ad rfl (by omega)
    have hx := hd.getD hi
    have hlt : i * 32 + 32 ≤ ls.length * 32 := by omega
    refine ⟨ad.block, ad.off + i * 32, ?_, by simp, some ⟨ad.block, ad.off + i * 32, none⟩, 32, by rw [hx], by rw [hx]; exact Nat.le_refl _, (fun h => by cases h), fun ad' h' _ => ?_⟩
    · rfl
    · cases h'
      refine ⟨rfl, h7, arr, E, fr, h8, by show ad.off + i * 32 + 32 * 1 ≤ arr.size; have : ls.length * 32 ≤ cap * 32 := Nat.mul_le_mul_right _ h3; omega, fun j hj => ?_⟩
      rw [hx] at hj
      have := h10 (i * 32 + j) (by omega)
      have e : ((dc ls).drop (i * 32)).take 32 = (ls.getD i []).map B8 := dc_at hd hi
      rw [← e, List.getElem?_take, if_pos (by omega), List.getElem?_drop, ← this]
      show arr[ad.off + i * 32 + j]? = _
      rw [Nat.add_assoc]
theorem dc_cut {ds : List Bs} (hd : Dg ds) {lo hi : Nat} (h1 : lo ≤ hi) (h2 : hi ≤ ds.length) : ((dc ds).drop (lo * 32)).take ((hi - lo) * 32) = dc ((ds.drop lo).take (hi - lo)) := by
  rw [dc_drop hd lo (by omega), dc_take (hd.drop lo) (hi - lo) (by simp; omega)]
theorem RdD.cut {M : List Nat} {w : World} {v : Value} {ds : List Bs} (h : RdD M w v ds) (hd : Dg ds) (lo hi : Nat) (h1 : lo ≤ hi) (h2 : hi ≤ ds.length) :
    ∃ v', (∀ a c, v = .slice a ds.length c → v' = .slice (if c = lo then a else a.map (·.add (lo * 32))) (hi - lo) (c - lo)) ∧ RdD M w v' ((ds.drop lo).take (hi - lo)) := by
  obtain ⟨v', hv, ho⟩ := Rd.cut h lo hi h1 h2
  refine ⟨v', hv, ?_⟩
  rw [dc_cut hd h1 h2] at ho
  unfold RdD
  rw [show ((ds.drop lo).take (hi - lo)).length = hi - lo by simp; omega]
  exact ho
theorem RdD.cut0 {M : List Nat} {w : World} {v : Value} {ds : List Bs} (h : RdD M w v ds) (hd : Dg ds) (hi : Nat) (h2 : hi ≤ ds.length) :
    ∃ v', (∀ a c, v = .slice a ds.length c → v' = .slice (if c = 0 then a else a.map (·.add (0 * 32))) (hi - 0) (c - 0)) ∧ RdD M w v' (ds.take hi) := by
  obtain ⟨v', hv, ho⟩ := RdD.cut h hd 0 hi (Nat.zero_le _) h2
  exact ⟨v', hv, by simpa using ho⟩
theorem RdD.cutE {M : List Nat} {w : World} {v : Value} {ds : List Bs} (h : RdD M w v ds) (hd : Dg ds) (lo : Nat) (h2 : lo ≤ ds.length) :
    ∃ v', (∀ a c, v = .slice a ds.length c → v' = .slice (if c = lo then a else a.map (·.add (lo * 32))) (ds.length - lo) (c - lo)) ∧ RdD M w v' (ds.drop lo) := by
  obtain ⟨v', hv, ho⟩ := RdD.cut h hd lo ds.length h2 (Nat.le_refl _)
  refine ⟨v', hv, ?_⟩
  rwa [List.take_of_length_le (by simp)] at ho
theorem OwD.cut {E : Nat} {v : Value} {ds : List Bs} {N : Hl} (h : OwD E v ds N) (hd : Dg ds) (lo hi : Nat) (h1 : lo ≤ hi) (h2 : hi ≤ ds.length) :
    ∃ v', (∀ a c, v = .slice a ds.length c → v' = .slice (if c = lo then a else a.map (·.add (lo * 32))) (hi - lo) (c - lo)) ∧ OwD E v' ((ds.drop lo).take (hi - lo)) N := by
  obtain ⟨v', hv, ho⟩ := Own.cut h lo hi h1 h2
  refine ⟨v', hv, ?_⟩
  rw [dc_cut hd h1 h2] at ho
  unfold OwD
  rw [show ((ds.drop lo).take (hi - lo)).length = hi - lo by simp; omega]
  exact ho
theorem OwD.cut0 {E : Nat} {v : Value} {ds : List Bs} {N : Hl} (h : OwD E v ds N) (hd : Dg ds) (hi : Nat) (h2 : hi ≤ ds.length) :
    ∃ v', (∀ a c, v = .slice a ds.length c → v' = .slice (if c = 0 then a else a.map (·.add (0 * 32))) (hi - 0) (c - 0)) ∧ OwD E v' (ds.take hi) N := by
  obtain ⟨v', hv, ho⟩ := OwD.cut h hd 0 hi (Nat.zero_le _) h2
  exact ⟨v', hv, by simpa using ho⟩
theorem OwD.cutE {E : Nat} {v : Value} {ds : List Bs} {N : Hl} (h : OwD E v ds N) (hd : Dg ds) (lo : Nat) (h2 : lo ≤ ds.length) :
    ∃ v', (∀ a c, v = .slice a ds.length c → v' = .slice (if c = lo then a else a.map (·.add (lo * 32))) (ds.length - lo) (c - lo)) ∧ OwD E v' (ds.drop lo) N := by
  obtain ⟨v', hv, ho⟩ := OwD.cut h hd lo ds.length h2 (Nat.le_refl _)
  refine ⟨v', hv, ?_⟩
  rwa [List.take_of_length_le (by simp)] at ho
section
variable {P : Program} {E : Env} {ty t t' : TypeId} {w : World} {x y : Operand} {M : List Nat} {w0 : World} {Hs : List Hl}
theorem any_goI {id : Nat} {ops : Array Oper} {Q : Exit → Act → World → Prop} {a : Act} (hm : P.follows .mixedOrders = true) (I : List Nat) {Hs' : List Hl} (he : pick I Hs = Hs') (keep : Nat → Bool) (hH : HS M w0 w Hs)
    (h : ∀ w', HS M w0 w' Hs → HS M w0 w' Hs' → wpK P .any ops Q (fun w => HS M w0 w Hs') keep ops.size (Array.replicate ops.size false) a w') (hI : I.Nodup := by decide) : (Code.region id ops true).wp P Q a w :=
  any_begin (fun w => HS M w0 w Hs') keep hm (h _ hH.drew (hH.drew.pick I he hI))
theorem q_buildC {pl : List (Nat × Nat)} {z : List Value} {parts : List (Nat × Operand)} {vs : List (Nat × Value)} {css : List (List Value)} (hB : BT P t pl z) (hp : evs E parts = some vs) (hf : FitC pl z.length vs css) :
    Runs P E (.build t parts.toArray) ty w (.agg (putL pl z vs css).toArray) := q_build hp fun w => run_build w t _ _ (by
  have e : vs.toArray.toList = vs := by simp
  rw [e, hB vs, fill_put vs css z z.length rfl hf])
/-- b[:] of an array's address, anywhere -/
theorem q_sliceAt {e k bb len : Nat} {z : Value} {b o : Nat} (hT : P.underlying t = some (.array len e)) (he : TI P e k bb z) (hx : E.ev x = some (.pointer (some ⟨b, o, none⟩))) :
    Runs P E (.slice t x none none none) ty w (.slice (some ⟨b, o, none⟩) len len) := by
  have := q_sliceA (P := P) (E := E) (ty := ty) (w := w) (lo := none) (hi := none) hT he hx 0 len rfl rfl rfl rfl (by omega) (by omega)
  simpa using this
/-- a literal of digests -/
theorem lo_buildD {parts : List (Nat × Operand)} {e bb : Nat} {z : Value} {ls : List Bs} {n : Nat} (hH : HS M w0 w Hs) (ht : P.underlying t = some (.slice e)) (he : TI P e 32 bb z) (hz : z.cells.size = 32)
    (hp : evs E parts = some (numD 0 ls)) (hn : ls.length = n) (hn1 : 0 < n) (hn2 : n ≤ 4096) (hd : Dg ls) :
    Lo P E (.buildSlice t n parts.toArray) ty w (fun v w' => ∃ N, OwD e v ls N ∧ HS M w0 w' (N :: Hs)) := by
  subst hn
  refine lo_buildSlice (k := 32) (bb := bb) (z := z) hH hp (dc_length hd) fun w => ?_
  have hf := fill_numD ls [] ((Array.range (ls.length * 32)).map (z.cells[· % z.cells.size]!)).toList hd Dg.nil (by simp)
  simp only [dc_nil, List.nil_append, List.length_nil, Array.toArray_toList] at hf
  have h1 : ¬ ls.length * 32 > 2 ^ 24 := by omega
  have h2 : ¬ ls.length * 32 = 0 := by omega
  simp only [Instr.buildSlice, Sem.run_bind, run_underlying ht, he.size, he.zero, Result.andThen_ok, if_neg h1, if_neg h2, Sem.run_pure]
  rw [hf]
  simp [newRow]
/-- digests appended to a row of one's own -/
theorem lo_appD {e bb : Nat} {z : Value} {v : Value} {ls l' : List Bs} {N : Hl} {rest : List Hl} {xv : Value} {d : TypeDesc}
    (hH : HS M w0 w (N :: rest)) (ht : P.underlying t = some (.slice e)) (ht' : P.underlying t' = some d) (hd : d = .slice e ∨ d = .string)
    (he : TI P e 32 bb z) (hz : z.cells.size = 32) (hx : E.ev x = some v) (hy : E.ev y = some xv)
    (hown : OwD e v ls N) (hs : RdD [] w xv l')
    (hb : (ls.length + l'.length) * bb ≤ 140737488355328) (hn : ls.length + l'.length ≤ 9223372036854775807) :
    Lo P E (.call ⟨.builtin .append, #[x, y], #[t, t']⟩) ty w (fun v' w' => ∃ N', OwD e v' (ls ++ l') N' ∧ HS M w0 w' (N' :: rest)) := by
  have := lo_append (ty := ty) hH ht ht' hd he hz hx hy hown hs.src (dc_one' l') hb hn
  simpa [OwD, dc_append] using this
end
end Go.Proofs.YtipjpbfledddaaaDoor
