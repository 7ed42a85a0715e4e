/- The texts Mx, My, Mi, Mo, Mr, Mm, Ms, Mj, Mp, Mn, Mh, Ml, Mk, Mz, M1, M2, M3, M4, M5 of this proof's library, one behind the other. -/
import Derived.Test.YthhdilafnfcpbaaDoorMzb
import Derived.Test.YthhdilafnfcpbaaDoorLl
import Derived.Scope
import Derived.Laws.Tables
import Derived.Test.YthhdilafnfcpbaaDoorMza
/- More operations: literals whose parts are aggregates; digests appended to a row. -/
namespace Go.Proofs.YthhdilafnfcpbaaDoor
open Go
set_option linter.unusedVariables false
set_option linter.unusedSimpArgs false
theorem Dg.two {x y : Bs} (h : x.length = 32) (h2 : y.length = 32) : Dg [x, y] := by simpa [Dg] using ⟨h, h2⟩

theorem At.decT {n d : Nat} {E : Env} {a : Act} {p : Prop} [Decidable p] (hA : At n ((d, .bool (decide p)) :: E) a) (h : p) : At n ((d, .bool true) :: E) a := by rwa [decide_eq_true h] at hA
theorem At.decF {n d : Nat} {E : Env} {a : Act} {p : Prop} [Decidable p] (hA : At n ((d, .bool (decide p)) :: E) a) (h : ¬ p) : At n ((d, .bool false) :: E) a := by rwa [decide_eq_false h] at hA
theorem At.spl {n d : Nat} {E : Env} {a : Act} {p G : Prop} [Decidable p] (hA : At n ((d, .bool (decide p)) :: E) a) (h1 : p → At n ((d, .bool true) :: E) a → G) (h2 : ¬ p → At n ((d, .bool false) :: E) a → G) : G := by
  by_cases h : p
  · exact h1 h (hA.decT h)
  · exact h2 h (hA.decF h)
section
variable {P : Program} {ops : Array Oper} {Q : Exit → Act → World → Prop} {rest : List Oper} {n : Nat} {E : Env} {a : Act} {w : World} {d : Nat} {op : Op} {ty : TypeId} {pos : String} {af : Array Edge}
/-- guarded, and not wanted: the slot is empty -/
theorem gsU (hA : At n E a) {g t : Nat} {b b' : Bool} (hops : (ops[g]?).bind (·.dst) = some t) (ht : E.look t = some (.bool b')) (hne : (b' == b) = false)
    (hd : Nat.blt d n = true) (k : ∀ a', At n ((d, undef) :: E) a' → wpList P ops Q rest a' w) : wpList P ops Q (⟨some d, op, ty, pos, af, some (g, b)⟩ :: rest) a w := by
  refine wpList_step fun K hK => ?_
  rw [if_neg (by rw [wanted_of rfl hA hops ht, hne]; simp)]
  exact hK _ _ (k _ (hA.put hd _))
/-- guarded by an empty slot -/
theorem gs0U (hA : At n E a) {g t : Nat} {b : Bool} (hops : (ops[g]?).bind (·.dst) = some t) (ht : E.look t = some undef)
    (hd : Nat.blt d n = true) (k : ∀ a', At n ((d, undef) :: E) a' → wpList P ops Q rest a' w) : wpList P ops Q (⟨some d, op, ty, pos, af, some (g, b)⟩ :: rest) a w := by
  refine wpList_step fun K hK => ?_
  rw [if_neg (by simp [Region.wanted, yielded, hops, hA.sat t _ ht, undef])]
  exact hK _ _ (k _ (hA.put hd _))
end
theorem noGoto_ret {Q : Exit → Act → World → Prop} {a : Act} {w : World} (h : Q .ret a w) : Exit.noGoto Q .ret a w := h
theorem toNat_ofInt64 {n : Nat} (h : n < 18446744073709551616) : (BitVec.ofInt 64 (n : Int)).toNat = n := by
  rw [BitVec.ofInt_natCast, BitVec.toNat_ofNat]
  exact Nat.mod_eq_of_lt (by simpa using h)
/-- a slice that was there when the function began, or one of its own -/
def RdOr (w0 : World) (e k : Nat) (v : Value) (n : Nat) (cs : List Value) (N : Hl) : Prop := (N = [] ∧ Rd [] w0 v n k cs) ∨ Own e k v n cs N
theorem RdOr.rd {w0 w : World} {e k : Nat} {v : Value} {n : Nat} {cs : List Value} {N : Hl} {Hs : List Hl} (h : RdOr w0 e k v n cs N) (hH : HS [] w0 w Hs) (i : Nat) (hi : nth? Hs i = some N) : Rd [] w v n k cs := by
  rcases h with ⟨_, h⟩ | h
  · exact hH.rd h
  · exact h.rd0 hH i hi
theorem RdOr.shp {w0 : World} {e k : Nat} {v : Value} {n : Nat} {cs : List Value} {N : Hl} (h : RdOr w0 e k v n cs N) : Shp v n := by
  rcases h with ⟨_, h⟩ | h
  · exact h.shp
  · exact h.shp
theorem foldl_cells : ∀ (vs c : List Value) (o k : Nat), o + k + vs.length ≤ c.length →
    ((vs.zipIdx k).foldl (fun cs (p : Value × Nat) => cs.setIfInBounds (o + p.2) p.1) c.toArray) = (putAt c (o + k) vs).toArray
  | [], c, o, k, _ => rfl
  | v :: vs, c, o, k, h => by
    simp only [List.length_cons] at h
    rw [List.zipIdx_cons, List.foldl_cons, List.setIfInBounds_toArray, foldl_cells vs (c.set (o + k) v) o (k + 1) (by simp; omega)]
    rfl
/-- a part is filled in -/
theorem fill_cons {place : Nat → Option (Nat × Nat)} {c : List Value} {i off size : Nat} {v : Value} {rest : List (Nat × Value)} (hp : place i = some (off, size)) (hs : v.cells.size = size) (hl : off + size ≤ c.length) :
    Instr.fill place c.toArray ((i, v) :: rest) = Instr.fill place (putAt c off v.cells.toList).toArray rest := by
  subst hs
  have h2 : ¬ (off + v.cells.size > c.toArray.size) := by simp; omega
  have e := foldl_cells v.cells.toList c off 0 (by simpa using hl)
  rw [Nat.add_zero] at e
  rw [← e]
  simp only [Instr.fill, hp]
  rw [if_neg (by simp only [ne_eq, not_true_eq_false, decide_false, Bool.false_or, decide_eq_true_eq]; exact h2)]
  congr 1
  rw [← Array.foldl_toList, Array.toList_zipIdx]
/-- a struct's places and its zero, as the tables have them -/
def BT (P : Program) (t : TypeId) (pl : List (Nat × Nat)) (z : List Value) : Prop := ∀ vs, P.built t vs = Instr.fill (pl.toArray[·]?) z.toArray vs
theorem BT.mk {P : Program} {t : TypeId} {pl : List (Nat × Nat)} {z : List Value} {it : TypeInfo} {fs : Array Field} (h1 : P.info? t = some it) (h2 : P.underlying t = some (.struct fs)) (h3 : it.zero = some (.agg z.toArray))
    (h4 : fs.toList.mapM (fun f => (P.info? f.type).map fun i => (f.offset, i.size)) = some pl) : BT P t pl z := fun vs => by
  simp only [Program.built, h1, h2, h3, h4]
  rfl
theorem cells_one {v : Value} (h : v.oneCell' = true) : v.cells.toList = [v] := by cases v <;> first | rfl | cases h
theorem Rd.one {M : List Nat} {w : World} {v : Value} {n k : Nat} {cs : List Value} (h : Rd M w v n k cs) : v.oneCell' = true := by
  obtain ⟨_, a, c, rfl, _⟩ := h; rfl
theorem RdOr.one {w0 : World} {e k : Nat} {v : Value} {n : Nat} {cs : List Value} {N : Hl} (h : RdOr w0 e k v n cs N) : v.oneCell' = true := by
  rcases h with ⟨_, h⟩ | h
  · exact h.one
  · exact h.one
/-- parts that fit into their places -/
def FitC (pl : List (Nat × Nat)) (m : Nat) : List (Nat × Value) → List (List Value) → Prop
  | [], [] => True
  | p :: vs, c :: css => p.2.cells.toList = c ∧ (∃ os : Nat × Nat, pl[p.1]? = some os ∧ c.length = os.2 ∧ os.1 + os.2 ≤ m) ∧ FitC pl m vs css
  | _, _ => False
/-- parts put in their places -/
def putL (pl : List (Nat × Nat)) : List Value → List (Nat × Value) → List (List Value) → List Value
  | z, p :: vs, c :: css => putL pl (putAt z (pl.getD p.1 (0, 0)).1 c) vs css
  | z, _, _ => z
theorem fill_put {pl : List (Nat × Nat)} : ∀ (vs : List (Nat × Value)) (css : List (List Value)) (z : List Value) (m : Nat), z.length = m → FitC pl m vs css → Instr.fill (pl.toArray[·]?) z.toArray vs = some (putL pl z vs css).toArray
  | [], [], _, _, _, _ => rfl
  | [], _ :: _, _, _, _, h => h.elim
  | _ :: _, [], _, _, _, h => h.elim
  | (i, v) :: vs, c :: css, z, m, hm, h => by
    obtain ⟨h1, ⟨⟨o, n⟩, h2, h3, h4⟩, h5⟩ := h
    simp only at h1 h2 h3 h4
    subst h1
    rw [fill_cons (off := o) (size := n) (by simpa using h2) (by simpa using h3) (by omega), fill_put vs css _ m (by rw [putAt_length]; exact hm) h5]
    have e : (pl.getD i (0, 0)).1 = o := by simp [List.getD, h2]
    rw [putL, e]
theorem OwD.nil (E : Nat) : OwD E (.slice none 0 0) [] [] := Own.nil E 32
theorem dc_cut {ds : List Bs} (hd : Dg ds) {lo hi : Nat} (h1 : lo ≤ hi) (h2 : hi ≤ ds.length) : ((dc ds).drop (lo * 32)).take ((hi - lo) * 32) = dc ((ds.drop lo).take (hi - lo)) := by
  rw [dc_drop hd lo (by omega), dc_take (hd.drop lo) (hi - lo) (by simp; omega)]
theorem RdD.cut {M : List Nat} {w : World} {v : Value} {ds : List Bs} (h : RdD M w v ds) (hd : Dg ds) (lo hi : Nat) (h1 : lo ≤ hi) (h2 : hi ≤ ds.length) :
    ∃ v', (∀ a c, v = .slice a ds.length c → v' = .slice (if c = lo then a else a.map (·.add (lo * 32))) (hi - lo) (c - lo)) ∧ RdD M w v' ((ds.drop lo).take (hi - lo)) := by
  obtain ⟨v', hv, ho⟩ := Rd.cut h lo hi h1 h2
  refine ⟨v', hv, ?_⟩
  rw [dc_cut hd h1 h2] at ho
  unfold RdD
  rw [show ((ds.drop lo).take (hi - lo)).length = hi - lo by simp; omega]
  exact ho
theorem RdD.cut0 {M : List Nat} {w : World} {v : Value} {ds : List Bs} (h : RdD M w v ds) (hd : Dg ds) (hi : Nat) (h2 : hi ≤ ds.length) :
    ∃ v', (∀ a c, v = .slice a ds.length c → v' = .slice (if c = 0 then a else a.map (·.add (0 * 32))) (hi - 0) (c - 0)) ∧ RdD M w v' (ds.take hi) := by
  obtain ⟨v', hv, ho⟩ := RdD.cut h hd 0 hi (Nat.zero_le _) h2
  exact ⟨v', hv, by simpa using ho⟩
theorem OwD.cut {E : Nat} {v : Value} {ds : List Bs} {N : Hl} (h : OwD E v ds N) (hd : Dg ds) (lo hi : Nat) (h1 : lo ≤ hi) (h2 : hi ≤ ds.length) :
    ∃ v', (∀ a c, v = .slice a ds.length c → v' = .slice (if c = lo then a else a.map (·.add (lo * 32))) (hi - lo) (c - lo)) ∧ OwD E v' ((ds.drop lo).take (hi - lo)) N := by
  obtain ⟨v', hv, ho⟩ := Own.cut h lo hi h1 h2
  refine ⟨v', hv, ?_⟩
  rw [dc_cut hd h1 h2] at ho
  unfold OwD
  rw [show ((ds.drop lo).take (hi - lo)).length = hi - lo by simp; omega]
  exact ho
theorem OwD.cut0 {E : Nat} {v : Value} {ds : List Bs} {N : Hl} (h : OwD E v ds N) (hd : Dg ds) (hi : Nat) (h2 : hi ≤ ds.length) :
    ∃ v', (∀ a c, v = .slice a ds.length c → v' = .slice (if c = 0 then a else a.map (·.add (0 * 32))) (hi - 0) (c - 0)) ∧ OwD E v' (ds.take hi) N := by
  obtain ⟨v', hv, ho⟩ := OwD.cut h hd 0 hi (Nat.zero_le _) h2
  exact ⟨v', hv, by simpa using ho⟩
section
variable {P : Program} {E : Env} {ty t t' : TypeId} {w : World} {x y : Operand} {M : List Nat} {w0 : World} {Hs : List Hl}
theorem any_goI {id : Nat} {ops : Array Oper} {Q : Exit → Act → World → Prop} {a : Act} (hm : P.follows .mixedOrders = true) (I : List Nat) {Hs' : List Hl} (he : pick I Hs = Hs') (keep : Nat → Bool) (hH : HS M w0 w Hs)
    (h : ∀ w', HS M w0 w' Hs → HS M w0 w' Hs' → wpK P .any ops Q (fun w => HS M w0 w Hs') keep ops.size (Array.replicate ops.size false) a w') (hI : I.Nodup := by decide) : (Code.region id ops true).wp P Q a w :=
  any_begin (fun w => HS M w0 w Hs') keep hm (h _ hH.drew (hH.drew.pick I he hI))
theorem q_buildC {pl : List (Nat × Nat)} {z : List Value} {parts : List (Nat × Operand)} {vs : List (Nat × Value)} {css : List (List Value)} (hB : BT P t pl z) (hp : evs E parts = some vs) (hf : FitC pl z.length vs css) :
    Runs P E (.build t parts.toArray) ty w (.agg (putL pl z vs css).toArray) := q_build hp fun w => run_build w t _ _ (by
  have e : vs.toArray.toList = vs := by simp
  rw [e, hB vs, fill_put vs css z z.length rfl hf])
end
end Go.Proofs.YthhdilafnfcpbaaDoor
/- Rows of bytes in memory. -/
namespace Go.Proofs.YthhdilafnfcpbaaDoor
open Go
set_option linter.unusedVariables false
set_option linter.unusedSimpArgs false
abbrev nilV : Value := .slice none 0 0
theorem getD_some' {α : Type} (l : List α) (d : α) {i : Nat} (hi : i < l.length) : l[i]? = some (l.getD i d) := by simp [List.getD, hi]
/-- bytes that the blocks of N tell -/
def RdH (N : Hl) (v : Value) (l : Bs) : Prop := ∀ M w, RO M w N → By M w v l
theorem RdH.mono {N N' : Hl} {v : Value} {l : Bs} (h : RdH N v l) (hs : ∀ p ∈ N, p ∈ N') : RdH N' v l := fun M w hN => h M w fun p hp => hN p (hs p hp)
theorem Own.rdh {e : Nat} {v : Value} {l : Bs} {N : Hl} (h : Ow B8 e v l N) : RdH N v l := fun M w hN => h.ro hN
/-- rows of one's own: their row of slices, and the bytes' blocks -/
def RowsH (E : Nat) (v : Value) (ls : List Bs) (Nr Nd : Hl) : Prop := ∃ vs : List Value, vs.length = ls.length ∧ Own E 1 v ls.length vs Nr ∧ ∀ i, i < ls.length → RdH Nd (vs.getD i nilV) (ls.getD i [])
theorem RowsH.nil (E : Nat) : RowsH E nilV [] [] [] := ⟨[], rfl, Own.nil E 1, fun i hi => absurd hi (Nat.not_lt_zero i)⟩
theorem RowsH.snoc {E : Nat} {v' x : Value} {ls : List Bs} {l : Bs} {Nr' Nd Nx : Hl} {vs : List Value} (hl : vs.length = ls.length) (ho : Own E 1 v' (ls.length + 1) (vs ++ [x]) Nr') (hr : ∀ i, i < ls.length → RdH Nd (vs.getD i nilV) (ls.getD i [])) (hx : RdH Nx x l) :
    RowsH E v' (ls ++ [l]) Nr' (Nx ++ Nd) := by
  refine ⟨vs ++ [x], by simp [hl], by simpa using ho, fun i hi => ?_⟩
  by_cases h : i < ls.length
  · have e1 : (vs ++ [x]).getD i nilV = vs.getD i nilV := by simp [List.getD, List.getElem?_append, hl, h]
    have e2 : (ls ++ [l]).getD i [] = ls.getD i [] := by simp [List.getD, List.getElem?_append, h]
    rw [e1, e2]
    exact (hr i h).mono fun p hp => List.mem_append_right _ hp
  · have e0 : i = ls.length := by simp at hi; omega
    subst e0
    have e1 : (vs ++ [x]).getD ls.length nilV = x := by simp [List.getD, List.getElem?_append, hl]
    have e2 : (ls ++ [l]).getD ls.length [] = l := by simp [List.getD, List.getElem?_append]
    rw [e1, e2]
    exact hx.mono fun p hp => List.mem_append_left _ hp
/-- rows that are read -/
def RdR (M : List Nat) (w : World) (v : Value) (ls : List Bs) : Prop := ∃ vs : List Value, vs.length = ls.length ∧ Rd M w v ls.length 1 vs ∧ ∀ i, i < ls.length → By M w (vs.getD i nilV) (ls.getD i [])
theorem RowsH.rdR {E : Nat} {v : Value} {ls : List Bs} {Nr Nd : Hl} {M : List Nat} {w0 w : World} {Hs : List Hl} (h : RowsH E v ls Nr Nd) (hH : HS M w0 w Hs) (i j : Nat) (hi : nth? Hs i = some Nr) (hj : nth? Hs j = some Nd) : RdR [] w v ls := by
  obtain ⟨vs, h1, h2, h3⟩ := h
  exact ⟨vs, h1, h2.rd0 hH i hi, fun k hk => h3 k hk [] w (RO.of hH j hj)⟩
theorem HS.rdR {M : List Nat} {w0 w : World} {Hs : List Hl} {v : Value} {ls : List Bs} (hH : HS M w0 w Hs) (h : RdR M w0 v ls) : RdR [] w v ls := by
  obtain ⟨vs, h1, h2, h3⟩ := h
  exact ⟨vs, h1, hH.rd h2, fun k hk => hH.rd (h3 k hk)⟩
theorem RdR.cut0 {M : List Nat} {w : World} {v : Value} {ls : List Bs} (h : RdR M w v ls) (hi : Nat) (h2 : hi ≤ ls.length) :
    ∃ v', (∀ a c, v = .slice a ls.length c → v' = .slice (if c = 0 then a else a.map (·.add (0 * 1))) (hi - 0) (c - 0)) ∧ RdR M w v' (ls.take hi) := by
  obtain ⟨vs, h1, h3, h4⟩ := h
  obtain ⟨v', hv, ho⟩ := Rd.cut h3 0 hi (Nat.zero_le _) h2
  refine ⟨v', hv, vs.take hi, by simp [h1], ?_, fun i hi' => ?_⟩
  · have e : (ls.take hi).length = hi - 0 := by rw [List.length_take]; omega
    rw [e]
    simpa using ho
  · rw [List.length_take] at hi'
    have e1 : (vs.take hi).getD i nilV = vs.getD i nilV := by simp [List.getD, List.getElem?_take, show i < hi by omega]
    have e2 : (ls.take hi).getD i [] = ls.getD i [] := by simp [List.getD, List.getElem?_take, show i < hi by omega]
    rw [e1, e2]
    exact h4 i (by omega)
theorem RdR.shp {M : List Nat} {w : World} {v : Value} {ls : List Bs} (h : RdR M w v ls) : Shp v ls.length := by
  obtain ⟨vs, h1, h2, h3⟩ := h
  exact h2.shp
theorem RowsH.shp {E : Nat} {v : Value} {ls : List Bs} {Nr Nd : Hl} (h : RowsH E v ls Nr Nd) : Shp v ls.length := by
  obtain ⟨vs, h1, h2, h3⟩ := h
  exact h2.shp
section
variable {P : Program} {E : Env} {ty t t' : TypeId} {w : World} {x y : Operand}
end
section
variable {P : Program} {E : Env} {ty t t' : TypeId} {w : World} {x y : Operand} {M : List Nat} {w0 : World} {Hs : List Hl}
/-- a literal of one value -/
theorem lo_build1 {parts : List (Nat × Operand)} {e bb : Nat} {z v : Value} (hH : HS M w0 w Hs) (ht : P.underlying t = some (.slice e)) (he : TI P e 1 bb z) (hz : z.cells.size = 1)
    (hp : evs E parts = some [(0, v)]) (hv : v.oneCell' = true) :
    Lo P E (.buildSlice t 1 parts.toArray) ty w (fun u w' => ∃ N, Own e 1 u 1 [v] N ∧ HS M w0 w' (N :: Hs)) := by
  refine lo_buildSlice (k := 1) (bb := bb) (z := z) hH hp rfl fun w => ?_
  have hc := cells_one hv
  have hs : v.cells.size = 1 := by rw [← Array.length_toList, hc]; rfl
  obtain ⟨u0, hu0⟩ : ∃ u0, ((Array.range (1 * 1)).map (z.cells[· % z.cells.size]!)) = [u0].toArray := by
    refine ⟨z.cells[0 % z.cells.size]!, ?_⟩
    rw [show Array.range (1 * 1) = #[0] from by decide]
    simp
  have hf := fill_cons (place := fun i => some (i * 1, 1)) (c := [u0]) (i := 0) (off := 0) (size := 1) (v := v) (rest := []) rfl hs (by simp)
  simp only [Instr.buildSlice, Sem.run_bind, run_underlying ht, he.size, he.zero, Result.andThen_ok, Sem.run_pure]
  rw [if_neg (by decide), if_neg (by decide)]
  simp only [Sem.run_bind, Sem.run_pure, he.zero, Result.andThen_ok, hu0]
  rw [hf, hc]
  simp [Instr.fill, putAt, newRow]
end
/-- a digest's first bytes -/
theorem HS.by8 {M : List Nat} {w0 w : World} {Hs : List Hl} {b T : Nat} {fr : Nat × Nat} {l : Bs} (hH : HS M w0 w Hs) (i : Nat) (hi : nth? Hs i = some [(b, Obj.cells (l.map B8).toArray T fr)]) (hl : l.length = 32) :
    By [] w (.slice (some ⟨b, 0, none⟩) 8 32) (l.take 8) := by
  have h8 : (l.take 8).length = 8 := by rw [List.length_take]; omega
  refine ⟨by simp, some ⟨b, 0, none⟩, 32, by rw [h8], by rw [h8]; decide, (fun h => by cases h), fun ad had _ => ?_⟩
  cases had
  refine ⟨rfl, by simp, _, T, fr, hH.at0 hi (List.mem_singleton.2 rfl), by simp [hl], fun k hk => ?_⟩
  rw [h8] at hk
  simp only [Nat.zero_add, List.getElem?_toArray, List.getElem?_map, List.getElem?_take]
  rw [if_pos (by omega)]
end Go.Proofs.YthhdilafnfcpbaaDoor
/- Literals of one-cell values, however many. -/
namespace Go.Proofs.YthhdilafnfcpbaaDoor
open Go
set_option linter.unusedVariables false
set_option linter.unusedSimpArgs false
def numV : Nat → List Value → List (Nat × Value)
  | _, [] => []
  | j, x :: r => (j, x) :: numV (j + 1) r
theorem fill_numV : ∀ (vs pre z : List Value), (∀ v ∈ vs, v.oneCell' = true) → vs.length = z.length →
    Instr.fill (fun i => some (i * 1, 1)) (pre ++ z).toArray (numV pre.length vs) = some (pre ++ vs).toArray
  | [], pre, z, _, hz => by
    have : z = [] := List.eq_nil_of_length_eq_zero (by simpa using hz.symm)
    subst this
    simp [numV, Instr.fill]
  | x :: vs, pre, z, h1, hz => by
    obtain ⟨y, z', rfl⟩ : ∃ y z', z = y :: z' := by
      cases z with
      | nil => simp at hz
      | cons y z' => exact ⟨y, z', rfl⟩
    have hc := cells_one (h1 x (by simp))
    have hs : x.cells.size = 1 := by rw [← Array.length_toList, hc]; rfl
    have e : putAt (pre ++ y :: z') (pre.length * 1) [x] = (pre ++ [x]) ++ z' := by
      rw [Nat.mul_one, putAt_eq _ _ _ (by simp)]
      simp
    rw [numV, fill_cons (off := pre.length * 1) (size := 1) rfl hs (by simp), hc, e]
    have := fill_numV vs (pre ++ [x]) z' (fun v hv => h1 v (by simp [hv])) (by simpa using hz)
    simpa using this
section
variable {P : Program} {E : Env} {ty t t' : TypeId} {w : World} {x y : Operand} {M : List Nat} {w0 : World} {Hs : List Hl}
/-- a literal of one-cell values -/
theorem lo_buildV {parts : List (Nat × Operand)} {e bb : Nat} {z : Value} {vs : List Value} {n : Nat} (hH : HS M w0 w Hs) (ht : P.underlying t = some (.slice e)) (he : TI P e 1 bb z) (hz : z.cells.size = 1)
    (hp : evs E parts = some (numV 0 vs)) (hn : vs.length = n) (hn1 : 0 < n) (hn2 : n ≤ 4096) (h1 : ∀ v ∈ vs, v.oneCell' = true) :
    Lo P E (.buildSlice t n parts.toArray) ty w (fun u w' => ∃ N, Own e 1 u n vs N ∧ HS M w0 w' (N :: Hs)) := by
  subst hn
  refine lo_buildSlice (k := 1) (bb := bb) (z := z) hH hp (by simp) fun w => ?_
  have hf := fill_numV vs [] ((Array.range (vs.length * 1)).map (z.cells[· % z.cells.size]!)).toList h1 (by simp)
  simp only [List.nil_append, List.length_nil, Array.toArray_toList] at hf
  have h3 : ¬ vs.length * 1 > 2 ^ 24 := by omega
  have h4 : ¬ vs.length * 1 = 0 := by omega
  simp only [Instr.buildSlice, Sem.run_bind, run_underlying ht, he.size, he.zero, Result.andThen_ok, if_neg h3, if_neg h4, Sem.run_pure]
  rw [hf]
  simp [newRow]
/-- the address of a field of a part -/
theorem q_fldo {fs : Array Field} {f : Field} {i k bb : Nat} {z : Value} {b : Nat} (o o2 : Nat) (hT : P.underlying t = some (.struct fs)) (hf : fs[i]? = some f) (ho : o + f.offset = o2) (he : TI P f.type (k + 1) bb z)
    (hx : E.ev x = some (.pointer (some ⟨b, o, none⟩))) : Runs P E (.fieldAddr t x i) ty w (.pointer (some ⟨b, o2, none⟩)) := by
  have := q_fieldAddr (P := P) (ty := ty) (w := w) hT hf he hx
  rwa [ho] at this
end
end Go.Proofs.YthhdilafnfcpbaaDoor
/- Plain laws of layer 5: one-time signatures. -/
namespace Go.Proofs.YthhdilafnfcpbaaDoor
open Go
set_option linter.unusedSimpArgs false
/-- one of bytes' bits -/
def bitV (d : Bs) (i : Nat) : Nat := (d.getD (i / 8) 0#8).toNat / 2 ^ (7 - i % 8) % 2
/-- a text's sum's bit -/
def btV (text : Bs) (i : Nat) : Nat := bitV (sha text) i
/-- a bit's secret, and its sum -/
def skV (s : Bs) (j : Nat) : Bs := macV s (sBytes ⟨#[111, 116, 115]⟩ ++ [0#8] ++ beB (BitVec.ofInt 64 (j : Int)) 8)
def pkV (s : Bs) (j : Nat) : Bs := sha (skV s j)
@[simp] theorem skV_length (s : Bs) (j : Nat) : (skV s j).length = 32 := by simp [skV, macV, rndB]
@[simp] theorem pkV_length (s : Bs) (j : Nat) : (pkV s j).length = 32 := by simp [pkV]
/-- the first j digests of a public part -/
def pubV (s : Bs) (j : Nat) : List Bs := (List.range j).map (pkV s)
@[simp] theorem pubV_length (s : Bs) (j : Nat) : (pubV s j).length = j := by simp [pubV]
/-- a public part's root -/
def rootO (ls : List Bs) : Bs := sha (2#8 :: ls.flatten)
@[simp] theorem rootO_length (ls : List Bs) : (rootO ls).length = 32 := by simp [rootO]
/-- a text's signature, of its first i bits -/
def sigV (s text : Bs) : Nat → List Bs
  | 0 => []
  | i + 1 => sigV s text i ++ [skV s (2 * i + btV text i), pkV s (2 * i + (1 - btV text i))]
@[simp] theorem sigV_length (s text : Bs) : ∀ i, (sigV s text i).length = 2 * i
  | 0 => rfl
  | i + 1 => by simp [sigV, sigV_length s text i]; omega
/-- the public part to which a signature leads, of its first i bits -/
def recV (text : Bs) (sig : List Bs) : Nat → List Bs
  | 0 => []
  | i + 1 => recV text sig i ++ (if btV text i = 0 then [sha (sig.getD (2 * i) []), sig.getD (2 * i + 1) []] else [sig.getD (2 * i + 1) [], sha (sig.getD (2 * i) [])])
@[simp] theorem recV_length (text : Bs) (sig : List Bs) : ∀ i, (recV text sig i).length = 2 * i
  | 0 => rfl
  | i + 1 => by
    rw [recV, List.length_append, recV_length text sig i]
    split <;> simp <;> omega
/-- may there be so many bits? -/
def R5 (n : Int) : Prop := 1 ≤ n ∧ n ≤ 256
instance (n : Int) : Decidable (R5 n) := inferInstanceAs (Decidable (_ ∧ _))
def recT (n : Int) (text : Bs) (sig : List Bs) : Bs × Nat := if R5 n then (if sig.length = 2 * n.toNat then (rootO (recV text sig n.toNat), 0) else (List.replicate 32 0#8, 41)) else (List.replicate 32 0#8, 1)
end Go.Proofs.YthhdilafnfcpbaaDoor
/- Plain laws of layer 4: numbers, texts, readers. -/
namespace Go.Proofs.YthhdilafnfcpbaaDoor
open Go
set_option linter.unusedSimpArgs false
/-- as many bytes as a number has -/
def wd (n : Nat) : Nat := if n = 0 then 0 else n.log2 / 8 + 1
theorem wd_le {n : Nat} (h : n < 18446744073709551616) : wd n ≤ 8 := by
  rw [wd]; split
  · omega
  · rename_i h0
    have : n.log2 < 64 := (Nat.log2_lt h0).2 (by simpa using h)
    omega
theorem p8 (w : Nat) : 2 ^ (8 * w) = 256 ^ w := by rw [Nat.pow_mul]
theorem wd_lt (n : Nat) : n < 256 ^ wd n := by
  rw [wd]; split
  · rename_i h; subst h; decide
  · rename_i h0
    rw [← p8]
    exact Nat.lt_of_lt_of_le ((Nat.log2_lt h0).1 (Nat.lt_succ_self _)) (Nat.pow_le_pow_right (by decide) (by omega))
theorem wd_ge {n : Nat} (h0 : n ≠ 0) : 256 ^ (wd n - 1) ≤ n := by
  rw [wd, if_neg h0, ← p8]
  exact Nat.le_trans (Nat.pow_le_pow_right (by decide) (by omega)) (Nat.log2_self_le h0)
theorem wd_unique {n w : Nat} (h1 : n < 256 ^ w) (h2 : w = 0 ∨ 256 ^ (w - 1) ≤ n) : w = wd n := by
  by_cases h0 : n = 0
  · subst h0
    rcases h2 with h2 | h2
    · rw [h2]; rfl
    · have := Nat.pow_pos (n := w - 1) (show 0 < 256 by decide); omega
  · have a1 := wd_lt n
    have a2 := wd_ge h0
    have b1 : wd n - 1 < w := (Nat.pow_lt_pow_iff_right (a := 256) (by decide)).1 (by omega)
    have b2 : 0 < wd n := by rw [wd, if_neg h0]; omega
    rcases h2 with h2 | h2
    · subst h2; omega
    · have b3 : w - 1 < wd n := (Nat.pow_lt_pow_iff_right (a := 256) (by decide)).1 (by omega)
      omega
/-- a number's bytes -/
def wnum (n : Nat) : Bs := BitVec.ofNat 8 (wd n) :: beB (BitVec.ofNat 64 n) (wd n)
@[simp] theorem wnum_length (n : Nat) : (wnum n).length = wd n + 1 := by simp [wnum, beB_length]
/-- a text's bytes -/
def wtext (l : Bs) : Bs := wnum l.length ++ l
@[simp] theorem wtext_length (l : Bs) : (wtext l).length = wd l.length + 1 + l.length := by simp [wtext]

/-! ### bytes and the numbers that they are -/
theorem low_toNat (n : BitVec 64) (k : Nat) : (lowB (n >>> k)).toNat = n.toNat / 2 ^ k % 256 := by
  simp [lowB, BitVec.toNat_setWidth, BitVec.toNat_ushiftRight, Nat.shiftRight_eq_div_pow]
theorem num_cons (c : BitVec 8) (l : Bs) (h : l.length < 8) : (num (c :: l)).toNat = c.toNat * 256 ^ l.length + (num l).toNat := by
  have e : ∀ (l : Bs) (a : Nat), l.foldl (fun n c => n * 256 + c.toNat) a = a * 256 ^ l.length + l.foldl (fun n c => n * 256 + c.toNat) 0 := by
    intro l
    induction l with
    | nil => intro a; simp
    | cons x r ih =>
      intro a
      simp only [List.foldl_cons, List.length_cons]
      rw [ih (a * 256 + x.toNat), ih (0 * 256 + x.toNat), Nat.add_mul, Nat.pow_succ, Nat.zero_mul, Nat.zero_add, Nat.add_assoc, Nat.mul_assoc, Nat.mul_comm 256]
  rw [(num_lt (c :: l) (by simp; omega)).2, (num_lt l (by omega)).2, List.foldl_cons, e]
  simp
theorem num_beB (n : BitVec 64) : ∀ {k : Nat}, k ≤ 8 → (num (beB n k)).toNat = n.toNat % 256 ^ k
  | 0, _ => by simp [beB, num, Nat.mod_one]
  | k + 1, h => by
    rw [beB, num_cons _ _ (by rw [beB_length]; omega), beB_length, num_beB n (by omega), low_toNat, p8, Nat.pow_succ, Nat.mod_mul]
    rw [Nat.mul_comm, Nat.add_comm]
theorem beB_num : ∀ {l : Bs}, l.length ≤ 8 → ∀ {n : BitVec 64}, n.toNat % 256 ^ l.length = (num l).toNat → beB n l.length = l
  | [], _, _, _ => rfl
  | c :: l, h, n, hn => by
    simp only [List.length_cons] at h hn ⊢
    have hc := num_cons c l (by omega)
    have hl := (num_lt l (by omega)).1
    have hp := Nat.pow_pos (n := l.length) (show 0 < 256 by decide)
    have hcl := c.isLt
    rw [hc, Nat.pow_succ, Nat.mod_mul] at hn
    have e1 : n.toNat % 256 ^ l.length = (num l).toNat := by
      have h2 := congrArg (· % 256 ^ l.length) hn
      simp only [Nat.add_mul_mod_self_left, Nat.mod_mod] at h2
      rw [h2, Nat.add_comm, Nat.add_mul_mod_self_right, Nat.mod_eq_of_lt hl]
    have e2 : n.toNat / 256 ^ l.length % 256 = c.toNat := by
      rw [e1, Nat.add_comm] at hn
      have h3 := Nat.add_right_cancel hn
      rw [Nat.mul_comm] at h3
      exact Nat.eq_of_mul_eq_mul_right hp h3
    rw [beB, beB_num (by omega) e1]
    congr 1
    apply BitVec.eq_of_toNat_eq
    rw [low_toNat, p8, e2]
/-! ### readers -/
/-- what is left, and the error -/
abbrev RS := Bs × Nat
/-- how wide a number is at the beginning -/
def nW (X : Bs) : Nat := (X.getD 0 0#8).toNat
def nV (X : Bs) : BitVec 64 := num ((X.drop 1).take (nW X))
/-- why there is no number at the beginning; 0: there is one -/
def nE (most : Nat) (X : Bs) : Nat :=
  if X.length = 0 then 40 else if 8 < nW X then 41 else if X.length - 1 < nW X then 40 else if 0 < nW X ∧ X.getD 1 0#8 = 0#8 then 41 else if most < (nV X).toNat then 42 else 0
def rNum (most : Nat) (s : RS) : BitVec 64 × RS := if s.2 ≠ 0 then (0#64, s) else if nE most s.1 = 0 then (nV s.1, s.1.drop (1 + nW s.1), 0) else (0#64, s.1, nE most s.1)
theorem rNum_off {most : Nat} {X : Bs} {e : Nat} (h : e ≠ 0) : rNum most (X, e) = (0#64, X, e) := by simp [rNum, h]
theorem rNum_err {most : Nat} {X : Bs} {c : Nat} (h : nE most X = c) (hc : c ≠ 0) : rNum most (X, 0) = (0#64, X, c) := by subst h; simp [rNum, hc]
theorem rNum_ok {most : Nat} {X : Bs} (h : nE most X = 0) : rNum most (X, 0) = (nV X, X.drop (1 + nW X), 0) := by simp [rNum, h]
theorem nE_0 {most : Nat} {X : Bs} (h : X.length = 0) : nE most X = 40 := by simp [nE, h]
theorem nE_1 {most : Nat} {X : Bs} (h : ¬ X.length = 0) (h1 : 8 < nW X) : nE most X = 41 := by simp [nE, h, h1]
theorem nE_2 {most : Nat} {X : Bs} (h : ¬ X.length = 0) (h1 : ¬ 8 < nW X) (h2 : X.length - 1 < nW X) : nE most X = 40 := by simp [nE, h, h1, h2]
theorem nE_3 {most : Nat} {X : Bs} (h : ¬ X.length = 0) (h1 : ¬ 8 < nW X) (h2 : ¬ X.length - 1 < nW X) (h3 : 0 < nW X ∧ X.getD 1 0#8 = 0#8) : nE most X = 41 := by
  rw [nE, if_neg h, if_neg h1, if_neg h2, if_pos h3]
theorem nE_4 {most : Nat} {X : Bs} (h : ¬ X.length = 0) (h1 : ¬ 8 < nW X) (h2 : ¬ X.length - 1 < nW X) (h3 : ¬ (0 < nW X ∧ X.getD 1 0#8 = 0#8)) (h4 : most < (nV X).toNat) : nE most X = 42 := by
  rw [nE, if_neg h, if_neg h1, if_neg h2, if_neg h3, if_pos h4]
theorem nE_5 {most : Nat} {X : Bs} (h : ¬ X.length = 0) (h1 : ¬ 8 < nW X) (h2 : ¬ X.length - 1 < nW X) (h3 : ¬ (0 < nW X ∧ X.getD 1 0#8 = 0#8)) (h4 : ¬ most < (nV X).toNat) : nE most X = 0 := by
  rw [nE, if_neg h, if_neg h1, if_neg h2, if_neg h3, if_neg h4]
theorem nE_zero {most : Nat} {X : Bs} (h : nE most X = 0) : ¬ X.length = 0 ∧ nW X ≤ 8 ∧ nW X + 1 ≤ X.length ∧ ¬ (0 < nW X ∧ X.getD 1 0#8 = 0#8) ∧ (nV X).toNat ≤ most := by
  simp only [nE] at h
  split at h
  · omega
  · split at h
    · omega
    · split at h
      · omega
      · split at h
        · omega
        · split at h
          · omega
          · rename_i h0 h1 h2 h3 h4
            exact ⟨h0, by omega, by omega, h3, by omega⟩
def rDig (s : RS) : Bs × RS := if s.2 ≠ 0 then (List.replicate 32 0#8, s) else if s.1.length < 32 then (List.replicate 32 0#8, s.1, 40) else (s.1.take 32, s.1.drop 32, 0)
def rEnd (s : RS) : Nat × RS := if s.2 = 0 ∧ 0 < s.1.length then (43, s.1, 43) else (s.2, s)
/-- a text -/
def rText (most : Int) (s : RS) : Bs × RS :=
  if (rNum 18446744073709551615 s).2.2 ≠ 0 then ([], (rNum 18446744073709551615 s).2)
  else if most < 0 ∨ most < (rNum 18446744073709551615 s).1.toNat then ([], s.1, 42)
  else if (rNum 18446744073709551615 s).2.1.length < (rNum 18446744073709551615 s).1.toNat then ([], s.1, 40)
  else ((rNum 18446744073709551615 s).2.1.take (rNum 18446744073709551615 s).1.toNat, (rNum 18446744073709551615 s).2.1.drop (rNum 18446744073709551615 s).1.toNat, 0)
/-- a number's bytes are the number again -/
theorem num_back {n : Nat} (h : n < 18446744073709551616) {most : Nat} (hm : n ≤ most) (Y : Bs) : rNum most (wnum n ++ Y, 0) = (BitVec.ofNat 64 n, Y, 0) := by
  have h8 := wd_le h
  have hw : nW (wnum n ++ Y) = wd n := by
    show (BitVec.ofNat 8 (wd n)).toNat = wd n
    rw [BitVec.toNat_ofNat]; exact Nat.mod_eq_of_lt (by omega)
  have hv : nV (wnum n ++ Y) = BitVec.ofNat 64 n := by
    have e : ((wnum n ++ Y).drop 1).take (wd n) = beB (BitVec.ofNat 64 n) (wd n) := by
      show (beB (BitVec.ofNat 64 n) (wd n) ++ Y).take (wd n) = _
      rw [List.take_append_of_le_length (by rw [beB_length]; exact Nat.le_refl _), List.take_of_length_le (by rw [beB_length]; exact Nat.le_refl _)]
    rw [nV, hw, e]
    apply BitVec.eq_of_toNat_eq
    rw [num_beB _ h8, BitVec.toNat_ofNat, Nat.mod_eq_of_lt h, Nat.mod_eq_of_lt (wd_lt n)]
  have he : nE most (wnum n ++ Y) = 0 := by
    apply nE_5
    · simp
    · rw [hw]; omega
    · rw [hw]; simp
    · rw [hw]
      rintro ⟨h0, h1⟩
      have h2 : (wnum n ++ Y).getD 1 0#8 = lowB (BitVec.ofNat 64 n >>> (8 * (wd n - 1))) := by
        obtain ⟨k, hk⟩ : ∃ k, wd n = k + 1 := ⟨wd n - 1, by omega⟩
        show (beB (BitVec.ofNat 64 n) (wd n) ++ Y).getD 0 0#8 = _
        rw [hk]; rfl
      rw [h2] at h1
      have h3 := congrArg BitVec.toNat h1
      rw [low_toNat, BitVec.toNat_ofNat, Nat.mod_eq_of_lt h, p8] at h3
      have n0 : n ≠ 0 := fun e => by rw [e, wd] at h0; simp at h0
      have g1 := wd_ge n0
      have g2 := wd_lt n
      have g3 : 256 ^ wd n = 256 ^ (wd n - 1) * 256 := by rw [← Nat.pow_succ]; congr 1; omega
      have hp := Nat.pow_pos (n := wd n - 1) (show 0 < 256 by decide)
      have g4 : n / 256 ^ (wd n - 1) < 256 := Nat.div_lt_of_lt_mul (by rw [← g3]; exact g2)
      have g5 : 0 < n / 256 ^ (wd n - 1) := Nat.div_pos g1 hp
      have h4 : n / 256 ^ (wd n - 1) % 256 = 0 := h3
      omega
    · rw [hv, BitVec.toNat_ofNat, Nat.mod_eq_of_lt h]; omega
  rw [rNum_ok he, hv, hw]
  have e : (wnum n ++ Y).drop (1 + wd n) = Y := by
    rw [Nat.add_comm]
    show (beB (BitVec.ofNat 64 n) (wd n) ++ Y).drop (wd n) = Y
    exact List.drop_left' (beB_length _ _)
  rw [e]
/-- what is read as a number has just its bytes -/
theorem num_det {most : Nat} {X : Bs} (h : nE most X = 0) : X = wnum (nV X).toNat ++ X.drop (1 + nW X) := by
  obtain ⟨h0, h1, h2, h3, h4⟩ := nE_zero h
  obtain ⟨c, T, rfl⟩ : ∃ c T, X = c :: T := by
    match X, h0 with
    | c :: T, _ => exact ⟨c, T, rfl⟩
  have hw : nW (c :: T) = c.toNat := rfl
  have hv : nV (c :: T) = num (T.take c.toNat) := rfl
  rw [hw] at h1 h2 h3
  simp only [List.length_cons] at h2
  have hl : (T.take c.toNat).length = c.toNat := by rw [List.length_take]; omega
  have hlt := num_lt (T.take c.toNat) (by omega)
  rw [hl] at hlt
  have hwd : c.toNat = wd (nV (c :: T)).toNat := by
    rw [hv]
    refine wd_unique hlt.1 ?_
    by_cases hc : c.toNat = 0
    · exact .inl hc
    · right
      obtain ⟨d, U, rfl⟩ : ∃ d U, T = d :: U := by
        match T, (by omega : 0 < T.length) with
        | d :: U, _ => exact ⟨d, U, rfl⟩
      obtain ⟨k, hk⟩ : ∃ k, c.toNat = k + 1 := ⟨c.toNat - 1, by omega⟩
      have hd : d ≠ 0#8 := fun e => h3 ⟨by omega, e⟩
      have hd2 : 0 < d.toNat := Nat.pos_of_ne_zero fun e => hd (BitVec.eq_of_toNat_eq e)
      have hUl : (U.take k).length = k := by rw [List.length_take]; simp only [List.length_cons] at h2; omega
      rw [hk, List.take_succ_cons, num_cons _ _ (by omega), hUl, Nat.add_sub_cancel]
      have := Nat.le_mul_of_pos_left (256 ^ k) hd2
      omega
  have hb : beB (BitVec.ofNat 64 (nV (c :: T)).toNat) c.toNat = T.take c.toNat := by
    have h5 := beB_num (l := T.take c.toNat) (by omega) (n := nV (c :: T)) (by rw [hl, hv]; exact Nat.mod_eq_of_lt hlt.1)
    rw [hl] at h5
    rw [BitVec.ofNat_toNat, BitVec.setWidth_eq]
    exact h5
  rw [wnum, ← hwd, hb, hw, Nat.add_comm 1]
  show c :: T = BitVec.ofNat 8 c.toNat :: (T.take c.toNat ++ T.drop c.toNat)
  rw [List.take_append_drop]
  congr 1
  simp
/-! ### what the walks ask -/
theorem shr_ge {n : BitVec 64} {k : Nat} (h : 0 < (n >>> (8 * k)).toNat) : 256 ^ k ≤ n.toNat := by
  rw [BitVec.toNat_ushiftRight, Nat.shiftRight_eq_div_pow, p8] at h
  rcases Nat.lt_or_ge n.toNat (256 ^ k) with h2 | h2
  · rw [Nat.div_eq_of_lt h2] at h; omega
  · exact h2
theorem shr_lt {n : BitVec 64} {k : Nat} (h : ¬ 0 < (n >>> (8 * k)).toNat) : n.toNat < 256 ^ k := by
  rw [BitVec.toNat_ushiftRight, Nat.shiftRight_eq_div_pow, p8] at h
  rcases Nat.lt_or_ge n.toNat (256 ^ k) with h2 | h2
  · exact h2
  · exact absurd (Nat.div_pos h2 (Nat.pow_pos (by decide))) h
theorem ne0_pos {x : BitVec 64} (h : x ≠ 0#64) : 0 < x.toNat := Nat.pos_of_ne_zero fun e => h (BitVec.eq_of_toNat_eq e)
theorem eq0_pos {x : BitVec 64} (h : ¬ x ≠ 0#64) : ¬ 0 < x.toNat := by
  have : x = 0#64 := Classical.byContradiction h
  rw [this]; decide
theorem wnum_eq {n : BitVec 64} {k : Nat} (h : k = wd n.toNat) : [BitVec.ofInt 8 (k : Int)] ++ beB n k = wnum n.toNat := by
  rw [wnum, ← h, BitVec.ofInt_natCast, BitVec.ofNat_toNat, BitVec.setWidth_eq]; rfl
theorem sw64 (p : BitVec 8) : (p.setWidth 64).toNat = p.toNat := by
  have := p.isLt
  rw [BitVec.toNat_setWidth, Nat.mod_eq_of_lt (by omega)]
/-- what is taken of l from k on, and where that ends -/
def takeL (l : Bs) (k n : Nat) : Bs := if n ≤ l.length - k then (l.drop k).take n else []
def takeA (l : Bs) (k n : Nat) : Nat := if n ≤ l.length - k then k + n else k
theorem takeL_ok {l : Bs} {k n : Nat} (h : n ≤ l.length - k) : takeL l k n = (l.drop k).take n := if_pos h
theorem takeA_ok {l : Bs} {k n : Nat} (h : n ≤ l.length - k) : takeA l k n = k + n := if_pos h
theorem takeL_no {l : Bs} {k n : Nat} (h : ¬ n ≤ l.length - k) : takeL l k n = [] := if_neg h
theorem takeA_no {l : Bs} {k n : Nat} (h : ¬ n ≤ l.length - k) : takeA l k n = k := if_neg h
theorem take1_at (X : Bs) : (X.take 1).getD 0 0#8 = X.getD 0 0#8 := by cases X <;> rfl
theorem By.cut {M : List Nat} {w : World} {v : Value} {l : Bs} (h : By M w v l) (lo hi : Nat) (h1 : lo ≤ hi) (h2 : hi ≤ l.length) :
    ∃ v', (∀ a c, v = .slice a l.length c → v' = .slice (if c = lo then a else a.map (·.add (lo * 1))) (hi - lo) (c - lo)) ∧ By M w v' ((l.drop lo).take (hi - lo)) := Rm.cut (f := B8) h lo hi h1 h2
/-- a piece of a slice, wherever the slice is read -/
theorem By.piece {v : Value} {l : Bs} {n : Nat} (hs : Shp v l.length) (lo hi : Nat) (h1 : lo ≤ hi) (h2 : hi ≤ l.length) (hn : n = l.length) :
    ∃ v', (∀ a c, v = .slice a n c → v' = .slice (if c = lo then a else a.map (·.add (lo * 1))) (hi - lo) (c - lo)) ∧ ∀ M w, By M w v l → By M w v' ((l.drop lo).take (hi - lo)) := by
  subst hn
  obtain ⟨a, c, rfl, hc, _⟩ := hs
  refine ⟨_, fun a' c' e => by cases e; rfl, fun M w h => ?_⟩
  obtain ⟨v', hv, hb⟩ := By.cut h lo hi h1 h2
  rw [hv a c rfl] at hb
  exact hb
theorem takeD_at {X : Bs} {w : Nat} (h : 0 < w) : ((X.drop 1).take w).getD 0 0#8 = X.getD 1 0#8 := by
  simp [List.getD, h]
theorem rEnd_off {X : Bs} {e : Nat} (h : e ≠ 0) : rEnd (X, e) = (e, X, e) := by simp [rEnd, h]
theorem rEnd_rest {X : Bs} (h : 0 < X.length) : rEnd (X, 0) = (43, X, 43) := by simp [rEnd, h]
theorem rEnd_ok {X : Bs} (h : ¬ 0 < X.length) : rEnd (X, 0) = (0, X, 0) := by simp [rEnd, h]
theorem rText_1 {most : Int} {s : RS} (h : (rNum 18446744073709551615 s).2.2 ≠ 0) : rText most s = ([], (rNum 18446744073709551615 s).2) := by rw [rText, if_pos h]
theorem rText_2 {most : Int} {s : RS} (h : ¬ (rNum 18446744073709551615 s).2.2 ≠ 0) (h2 : most < 0 ∨ most < (rNum 18446744073709551615 s).1.toNat) : rText most s = ([], s.1, 42) := by rw [rText, if_neg h, if_pos h2]
theorem rText_3 {most : Int} {s : RS} (h : ¬ (rNum 18446744073709551615 s).2.2 ≠ 0) (h2 : ¬ (most < 0 ∨ most < (rNum 18446744073709551615 s).1.toNat)) (h3 : (rNum 18446744073709551615 s).2.1.length < (rNum 18446744073709551615 s).1.toNat) : rText most s = ([], s.1, 40) := by
  rw [rText, if_neg h, if_neg h2, if_pos h3]
theorem rText_4 {most : Int} {s : RS} (h : ¬ (rNum 18446744073709551615 s).2.2 ≠ 0) (h2 : ¬ (most < 0 ∨ most < (rNum 18446744073709551615 s).1.toNat)) (h3 : ¬ (rNum 18446744073709551615 s).2.1.length < (rNum 18446744073709551615 s).1.toNat) :
    rText most s = ((rNum 18446744073709551615 s).2.1.take (rNum 18446744073709551615 s).1.toNat, (rNum 18446744073709551615 s).2.1.drop (rNum 18446744073709551615 s).1.toNat, 0) := by
  rw [rText, if_neg h, if_neg h2, if_neg h3]
theorem toNat_ofIntN {m : Int} (h : 0 ≤ m ∧ m ≤ 9223372036854775807) : ((BitVec.ofInt 64 m).toNat : Nat) = m.toNat := by
  obtain ⟨n, rfl⟩ : ∃ n : Nat, m = n := ⟨m.toNat, by omega⟩
  rw [toNat_ofInt64 (by omega)]; rfl
theorem HS.nil2 {M : List Nat} {w0 w : World} {N : Hl} (h : HS M w0 w [N]) : HS M w0 w [N, []] := h.nilFront.pick [1, 0] rfl
section
variable {α : Type} {f : α → Value}
theorem Rm.cut0 {M : List Nat} {w : World} {v : Value} {l : List α} (h : Rm f M w v l) (hi : Nat) (h2 : hi ≤ l.length) : ∃ v', (∀ a c, v = .slice a l.length c → v' = .slice (if c = 0 then a else a.map (·.add (0 * 1))) (hi - 0) (c - 0)) ∧ Rm f M w v' (l.take hi) := by
  obtain ⟨v', hv, ho⟩ := Rm.cut h 0 hi (Nat.zero_le _) h2
  exact ⟨v', hv, by simpa using ho⟩
theorem Ow.cut0 {e : Nat} {v : Value} {l : List α} {N : Hl} (h : Ow f e v l N) (hi : Nat) (h2 : hi ≤ l.length) : ∃ v', (∀ a c, v = .slice a l.length c → v' = .slice (if c = 0 then a else a.map (·.add (0 * 1))) (hi - 0) (c - 0)) ∧ Ow f e v' (l.take hi) N := by
  obtain ⟨v', hv, ho⟩ := Ow.cut h 0 hi (Nat.zero_le _) h2
  exact ⟨v', hv, by simpa using ho⟩
end
theorem By.piece0 {v : Value} {l : Bs} {n : Nat} (hs : Shp v l.length) (hi : Nat) (h2 : hi ≤ l.length) (hn : n = l.length) :
    ∃ v', (∀ a c, v = .slice a n c → v' = .slice (if c = 0 then a else a.map (·.add (0 * 1))) (hi - 0) (c - 0)) ∧ ∀ M w, By M w v l → By M w v' (l.take hi) := by
  obtain ⟨v', hv, h⟩ := By.piece hs 0 hi (Nat.zero_le _) h2 hn
  exact ⟨v', hv, fun M w hb => by simpa using h M w hb⟩
theorem By.pieceE {v : Value} {l : Bs} {n : Nat} (hs : Shp v l.length) (lo : Nat) (h2 : lo ≤ l.length) (hn : n = l.length) :
    ∃ v', (∀ a c, v = .slice a n c → v' = .slice (if c = lo then a else a.map (·.add (lo * 1))) (l.length - lo) (c - lo)) ∧ ∀ M w, By M w v l → By M w v' (l.drop lo) := by
  obtain ⟨v', hv, h⟩ := By.piece hs lo l.length h2 (Nat.le_refl _) hn
  refine ⟨v', hv, fun M w hb => ?_⟩
  have := h M w hb
  rwa [List.take_of_length_le (by simp)] at this
end Go.Proofs.YthhdilafnfcpbaaDoor
/- Plain laws of layer 4: a text that is read, step by step. -/
namespace Go.Proofs.YthhdilafnfcpbaaDoor
open Go
set_option linter.unusedSimpArgs false
/-- the state behind a count -/
def cntV (most : Int) (X : Bs) (Q : BitVec 64 × RS) : RS := if Q.2.2 = 0 ∧ (most < 0 ∨ most < Q.1.toNat) then (X, 42) else Q.2
theorem cntV_t {most : Int} {X : Bs} {Q : BitVec 64 × RS} (h1 : Q.2.2 = 0) (h2 : most < 0 ∨ most < Q.1.toNat) : cntV most X Q = (X, 42) := if_pos ⟨h1, h2⟩
theorem cntV_f {most : Int} {X : Bs} {Q : BitVec 64 × RS} (h : ¬ (Q.2.2 = 0 ∧ (most < 0 ∨ most < Q.1.toNat))) : cntV most X Q = Q.2 := if_neg h
theorem rText_c {most : Int} {X : Bs} {Q : BitVec 64 × RS} (hQ : Q = rNum 18446744073709551615 (X, 0)) (h : (cntV most X Q).2 ≠ 0) : rText most (X, 0) = ([], cntV most X Q) := by
  by_cases h1 : Q.2.2 = 0
  · by_cases h2 : most < 0 ∨ most < Q.1.toNat
    · rw [cntV_t h1 h2, rText_2 (by rw [← hQ]; omega) (by rw [← hQ]; exact h2)]
    · rw [cntV_f (fun h => h2 h.2)] at h
      exact absurd h1 h
  · rw [cntV_f (fun h => h1 h.1), rText_1 (by rw [← hQ]; exact h1), ← hQ]
theorem cntV_z {most : Int} {X : Bs} {Q : BitVec 64 × RS} (h : (cntV most X Q).2 = 0) : Q.2.2 = 0 ∧ ¬ (most < 0 ∨ most < Q.1.toNat) ∧ cntV most X Q = Q.2 := by
  by_cases h1 : Q.2.2 = 0 ∧ (most < 0 ∨ most < Q.1.toNat)
  · rw [cntV_t h1.1 h1.2] at h
    exact absurd h (by simp)
  · rw [cntV_f h1] at h ⊢
    exact ⟨h, fun h2 => h1 ⟨h, h2⟩, rfl⟩
theorem rText_s {most : Int} {X : Bs} {Q : BitVec 64 × RS} (hQ : Q = rNum 18446744073709551615 (X, 0)) (h : (cntV most X Q).2 = 0) (h3 : Q.2.1.length < Q.1.toNat) : rText most (X, 0) = ([], X, 40) := by
  obtain ⟨a, b, _⟩ := cntV_z h
  rw [rText_3 (by rw [← hQ]; omega) (by rw [← hQ]; exact b) (by rw [← hQ]; exact h3)]
theorem rText_o {most : Int} {X : Bs} {Q : BitVec 64 × RS} (hQ : Q = rNum 18446744073709551615 (X, 0)) (h : (cntV most X Q).2 = 0) (h3 : ¬ Q.2.1.length < Q.1.toNat) : rText most (X, 0) = (Q.2.1.take Q.1.toNat, Q.2.1.drop Q.1.toNat, 0) := by
  obtain ⟨a, b, _⟩ := cntV_z h
  rw [rText_4 (by rw [← hQ]; omega) (by rw [← hQ]; exact b) (by rw [← hQ]; exact h3), ← hQ]
theorem rText_off {most : Int} {X : Bs} {e : Nat} (h : e ≠ 0) : rText most (X, e) = ([], X, e) := by
  have e1 := rNum_off (most := 18446744073709551615) (X := X) h
  rw [rText_1 (by rw [e1]; exact h), e1]
end Go.Proofs.YthhdilafnfcpbaaDoor
/- Structs of whole numbers: equal ones; their cells. -/
namespace Go.Proofs.YthhdilafnfcpbaaDoor
open Go
set_option linter.unusedSimpArgs false
section
variable {P : Program} {E : Env} {ty t t' : TypeId} {w : World} {x y : Operand}
end
/-- pointers to a block's cells -/
def pb (b : Nat) (j : Nat) : Value := .pointer (some ⟨b, j, none⟩)
end Go.Proofs.YthhdilafnfcpbaaDoor
/- Plain laws of layer 7: keys. -/
namespace Go.Proofs.YthhdilafnfcpbaaDoor
open Go
set_option linter.unusedSimpArgs false
/-- the seed of a key's index -/
def seedK (s : Bs) (i : Nat) : Bs := macV s (sBytes ⟨#[107, 101, 121]⟩ ++ [0#8] ++ beB (BitVec.ofInt 64 (i : Int)) 8)
@[simp] theorem seedK_length (s : Bs) (i : Nat) : (seedK s i).length = 32 := by simp [seedK]
/-- an index' leaf -/
def leafK (s : Bs) (n i : Nat) : Bs := rootO (pubV (seedK s i) (2 * n))
@[simp] theorem leafK_length (s : Bs) (n i : Nat) : (leafK s n i).length = 32 := by simp [leafK, rootO]
/-- a key's leaves, the first m -/
def leavesK (s : Bs) (n m : Nat) : List Bs := (List.range m).map (leafK s n)
@[simp] theorem leavesK_length (s : Bs) (n m : Nat) : (leavesK s n m).length = m := by simp [leavesK]
/-- may there be such a key? -/
def R7 (n h : Int) : Prop := R5 n ∧ 0 ≤ h ∧ h ≤ 6
instance (n h : Int) : Decidable (R7 n h) := by unfold R7 R5; infer_instance
/-! ### a signature's bytes -/
/-- so many digests -/
def rDigs : Nat → RS → List Bs × RS
  | 0, s => ([], s)
  | k + 1, s => ((rDigs k s).1 ++ [(rDig (rDigs k s).2).1], (rDig (rDigs k s).2).2)
@[simp] theorem rDigs_length (s : RS) : ∀ k, (rDigs k s).1.length = k
  | 0 => rfl
  | k + 1 => by simp [rDigs, rDigs_length s k]
/-- the signature of bytes, or the error -/
def decK (n h : Nat) (b : Bs) : (Nat × List Bs × List Bs) × Nat :=
  if (rEnd (rDigs h (rDigs (2 * n) (rNum 18446744073709551615 (b, 0)).2).2).2).1 ≠ 0 then ((0, [], []), (rEnd (rDigs h (rDigs (2 * n) (rNum 18446744073709551615 (b, 0)).2).2).2).1)
  else if 2 ^ h ≤ (rNum 18446744073709551615 (b, 0)).1.toNat then ((0, [], []), 41)
  else (((rNum 18446744073709551615 (b, 0)).1.toNat, (rDigs (2 * n) (rNum 18446744073709551615 (b, 0)).2).1, (rDigs h (rDigs (2 * n) (rNum 18446744073709551615 (b, 0)).2).2).1), 0)
end Go.Proofs.YthhdilafnfcpbaaDoor
/- Keys: where any digests lead; what verifying tells; a key's cells. -/
namespace Go.Proofs.YthhdilafnfcpbaaDoor
open Go
set_option linter.unusedSimpArgs false
theorem ones_nil : ∀ u ∈ ([] : List Value), u.oneCell' = true := fun _ h => absurd h (List.not_mem_nil)
theorem ones_cons {v : Value} {l : List Value} (h : v.oneCell' = true) (hl : ∀ u ∈ l, u.oneCell' = true) : ∀ u ∈ v :: l, u.oneCell' = true := fun u hu => by
  rcases List.mem_cons.1 hu with rfl | hu
  · exact h
  · exact hl u hu
/-- where digests lead as a path, or the error -/
def clT (p : Bs) (i : Int) (ds : List Bs) : Bs × Nat := if ds.length ≤ 10 ∧ 0 ≤ i ∧ i < ((2 ^ ds.length : Nat) : Int) then (clm p i.toNat ds ds.length, 0) else (List.replicate 32 0#8, 1)
/-- is the signature right? -/
def V7 (pub : Bs) (n h : Int) (text : Bs) (i : Int) (A B : List Bs) : Prop := R7 n h ∧ (B.length : Int) = h ∧ (recT n text A).2 = 0 ∧ (clT (recT n text A).1 i B).2 = 0 ∧ (clT (recT n text A).1 i B).1 = pub
instance (pub : Bs) (n h : Int) (text : Bs) (i : Int) (A B : List Bs) : Decidable (V7 pub n h text i A B) := by unfold V7; infer_instance
/-- more than is played? -/
def G7 (n h : Int) : Prop := (24 < n ∧ n ≤ 256) ∨ (3 < h ∧ h ≤ 6)
instance (n h : Int) : Decidable (G7 n h) := by unfold G7; infer_instance
theorem RdD.nilV {M : List Nat} {w : World} : RdD M w Go.Proofs.YthhdilafnfcpbaaDoor.nilV [] := ⟨rfl, none, 0, rfl, Nat.le_refl _, fun _ => ⟨rfl, rfl⟩, fun _ h => by cases h⟩
end Go.Proofs.YthhdilafnfcpbaaDoor
/- Keys: more about cells; what whole scripts do. -/
namespace Go.Proofs.YthhdilafnfcpbaaDoor
open Go
set_option linter.unusedSimpArgs false
theorem Runs.eq {P : Program} {E : Env} {op : Op} {ty : TypeId} {w : World} {v v' : Value} (h : Runs P E op ty w v) (e : v = v') : Runs P E op ty w v' := e ▸ h
/-- the address of a field of an element -/
theorem q_fldE {P : Program} {E : Env} {ty t : TypeId} {w : World} {x : Operand} {fs : Array Field} {f : Field} {i k bb j : Nat} {z v : Value} (o : Nat) (hT : P.underlying t = some (.struct fs)) (hf : fs[i]? = some f) (ho : f.offset = o) (he : TI P f.type (k + 1) bb z)
    (hx : E.ev x = some (.pointer (some (v.cellAt j)))) : Runs P E (.fieldAddr t x i) ty w (.pointer (some (v.cellAt (j + o)))) := by
  obtain ⟨b, p, hb⟩ : ∃ b p, v.cellAt j = ⟨b, p, none⟩ := by
    unfold Value.cellAt
    split <;> exact ⟨_, _, rfl⟩
  have h := q_fieldAddr (P := P) (ty := ty) (w := w) hT hf he (by rw [hx, hb])
  rw [ho] at h
  rw [← cellAt_add, hb, add_off]
  exact h
end Go.Proofs.YthhdilafnfcpbaaDoor
/- Keys: a signature's bytes, step by step. -/
namespace Go.Proofs.YthhdilafnfcpbaaDoor
open Go
set_option linter.unusedSimpArgs false
section
variable {P : Program} {E : Env} {ty t t' : TypeId} {w : World} {x y : Operand} {M : List Nat} {w0 : World} {Hs : List Hl}
end
/-- digests that are made -/
theorem OwD.make {e n : Nat} {v : Value} {N : Hl} {z : List Value} (h : Own e 32 v n (List.replicate n z).flatten N) (hz : z = (List.replicate 32 0#8).map B8) : OwD e v (List.replicate n (List.replicate 32 0#8)) N := by
  subst hz
  have e1 : (List.replicate n ((List.replicate 32 0#8).map B8)).flatten = dc (List.replicate n (List.replicate 32 0#8)) := by
    simp only [dc, List.flatMap, List.map_replicate]
  rw [e1] at h
  show Own e 32 v (List.replicate n (List.replicate 32 0#8)).length _ N
  rw [List.length_replicate]
  exact h
/-! ### reading a signature, step by step -/
end Go.Proofs.YthhdilafnfcpbaaDoor
/- Plain laws of layer 20: results. -/
namespace Go.Proofs.YthhdilafnfcpbaaDoor
open Go
set_option linter.unusedSimpArgs false
/-- a signature of bytes, whatever is asked -/
def decT (n h : Int) (b : Bs) : (Nat × List Bs × List Bs) × Nat := if R7 n h then decK n.toNat h.toNat b else ((0, [], []), 1)
/-- the state behind the texts -/
def tS (l : Bs) : Nat → RS
  | 0 => (l, 0)
  | 1 => (rText 100 (l, 0)).2
  | 2 => (rText 32 (rText 100 (l, 0)).2).2
  | _ => (rText 9223372036854775807 (rText 32 (rText 100 (l, 0)).2).2).2
def t0 (l : Bs) : Bs := (rText 100 (l, 0)).1
def t1 (l : Bs) : Bs := (rText 32 (rText 100 (l, 0)).2).1
def t2 (l : Bs) : Bs := (rText 9223372036854775807 (rText 32 (rText 100 (l, 0)).2).2).1
/-- the result of bytes, or the error: token, value, the signature's -/
def decR (n h : Int) (l : Bs) : (Bs × Bs × Nat × List Bs × List Bs) × Nat :=
  if (rEnd (tS l 3)).1 ≠ 0 then (([], [], 0, [], []), (rEnd (tS l 3)).1)
  else if (decT n h (t2 l)).2 ≠ 0 then (([], [], 0, [], []), (decT n h (t2 l)).2)
  else ((t0 l, t1 l, (decT n h (t2 l)).1), 0)
theorem wtext_len9 {l : Bs} (h : l.length ≤ 1048576) : (wtext l).length ≤ 9 + l.length := by
  have := wd_le (n := l.length) (by omega)
  rw [wtext_length]; omega
theorem By.nilV {M : List Nat} {w : World} : By M w Go.Proofs.YthhdilafnfcpbaaDoor.nilV [] := ⟨rfl, none, 0, rfl, Nat.le_refl _, fun _ => ⟨rfl, rfl⟩, fun _ h => by cases h⟩
end Go.Proofs.YthhdilafnfcpbaaDoor
/- Plain laws of layer 17: tokens. -/
namespace Go.Proofs.YthhdilafnfcpbaaDoor
open Go
set_option linter.unusedSimpArgs false
/-- the greatest number -/
def tM : Nat := 1099511627776
def inT (n : Int) : Prop := 0 ≤ n ∧ n ≤ 1099511627776
instance (n : Int) : Decidable (inT n) := inferInstanceAs (Decidable (_ ∧ _))
def RtT (ts : List Int) : Prop := ∀ n ∈ ts, inT n
instance (ts : List Int) : Decidable (RtT ts) := inferInstanceAs (Decidable (∀ n ∈ ts, inT n))
/-- numbers' bytes, one behind the other -/
def bodyT : List Int → Bs
  | [] => []
  | n :: ts => wnum n.toNat ++ bodyT ts
/-- a token's bytes, or the error -/
def mkT (key : Bs) (ts : List Int) : Bs × Nat := if RtT ts then (bodyT ts ++ macV key (bodyT ts), 0) else ([], 1)
/-- the first numbers of bytes -/
def rT (s : RS) : Nat → List Int × RS
  | 0 => ([], s)
  | i + 1 => ((rT s i).1 ++ [((rNum tM (rT s i).2).1.toNat : Int)], (rNum tM (rT s i).2).2)
@[simp] theorem rT_length (s : RS) : ∀ i, (rT s i).1.length = i
  | 0 => rfl
  | i + 1 => by simp [rT, rT_length s i]
theorem rNum_le (m : Nat) (s : RS) : (rNum m s).1.toNat ≤ m := by
  rw [rNum]; split
  · simp
  · split
    · rename_i h; exact (nE_zero h).2.2.2.2
    · simp
/-- the token of bytes, or the error -/
def chkT (key l : Bs) : List Int × Nat :=
  if (rEnd (rDig (rT (l, 0) 6).2).2).1 ≠ 0 then (List.replicate 6 0, (rEnd (rDig (rT (l, 0) 6).2).2).1)
  else if macV key (l.take (l.length - (rT (l, 0) 6).2.1.length)) = (rDig (rT (l, 0) 6).2).1 then ((rT (l, 0) 6).1, 0) else (List.replicate 6 0, 170)
/-! ### there and back -/
attribute [irreducible] chkT mkT
end Go.Proofs.YthhdilafnfcpbaaDoor
/- Plain laws of layer 22: orders, workers. -/
namespace Go.Proofs.YthhdilafnfcpbaaDoor
open Go
set_option linter.unusedSimpArgs false
/-- an order's cells -/
def ordC (j a i : Int) (t p : Value) (n : Bs) : List Value := I j :: I a :: I i :: t :: p :: n.map B8
theorem ordC_length {j a i : Int} {t p : Value} {n : Bs} (hn : n.length = 32) : (ordC j a i t p n).length = 37 := by simp [ordC, hn]
/-- may an order be? -/
def MayO (j a i : Int) (T P : Bs) : Prop := (0 ≤ j ∧ j ≤ 1099511627776) ∧ (0 ≤ a ∧ a ≤ 1099511627776) ∧ (0 ≤ i ∧ i ≤ 1099511627776) ∧ T.length ≤ 100 ∧ P.length ≤ 64
instance (j a i : Int) (T P : Bs) : Decidable (MayO j a i T P) := by unfold MayO; infer_instance
/-! ### reading an order -/
/-- may there be such a config? -/
def RightC (cs : List Int) : Prop := (0 ≤ cs.getD 0 0 ∧ cs.getD 0 0 ≤ 2) ∧ (2 * cs.getD 0 0 + 1 ≤ cs.getD 1 0 ∧ cs.getD 1 0 ≤ 8) ∧ (0 ≤ cs.getD 2 0 ∧ cs.getD 2 0 ≤ 6) ∧ (0 ≤ cs.getD 6 0 ∧ cs.getD 6 0 ≤ 6) ∧ (1 ≤ cs.getD 3 0 ∧ cs.getD 3 0 ≤ 256) ∧ (1 ≤ cs.getD 4 0 ∧ cs.getD 4 0 ≤ 64) ∧ (1 ≤ cs.getD 5 0 ∧ cs.getD 5 0 ≤ 10000)
section
variable {P : Program} {E : Env} {ty t t' : TypeId} {w : World} {x y : Operand}
end
end Go.Proofs.YthhdilafnfcpbaaDoor
/- Plain laws of layer 22: orders there and back. -/
namespace Go.Proofs.YthhdilafnfcpbaaDoor
open Go
end Go.Proofs.YthhdilafnfcpbaaDoor
/- What a worker hears, in plain Lean; what it did, in memory. -/
namespace Go.Proofs.YthhdilafnfcpbaaDoor
open Go
set_option linter.unusedSimpArgs false
abbrev Dids := List (Nat × Bs × Bs)
def hadD (did : Dids) (i : Nat) : Option (Nat × Bs × Bs) := did.find? fun e => e.1 == i
/-- what was done, in memory: the map's entries, and the blocks of orders and answers -/
def DidM (T : Nat) : Dids → List (Int × Value) → Hl → Prop
  | [], m, N => m = [] ∧ N = []
  | e :: r, m, N => ∃ ov av m' No Na Nr, m = ((e.1 : Int), .agg #[ov, av]) :: m' ∧ N = No ++ (Na ++ Nr) ∧ Ow B8 T ov e.2.1 No ∧ Ow B8 T av e.2.2 Na ∧ DidM T r m' Nr
theorem DidM.snoc {T : Nat} {i : Nat} {l a : Bs} {ov av : Value} {No Na : Hl} (h1 : Ow B8 T ov l No) (h2 : Ow B8 T av a Na) : ∀ {did : Dids} {m : List (Int × Value)} {N : Hl}, DidM T did m N → DidM T (did ++ [(i, l, a)]) (m ++ [((i : Int), .agg #[ov, av])]) (N ++ (No ++ Na))
  | [], m, N, h => by
    obtain ⟨rfl, rfl⟩ := h
    exact ⟨ov, av, [], No, Na, [], rfl, by simp, h1, h2, rfl, rfl⟩
  | e :: r, m, N, h => by
    obtain ⟨ov', av', m', No', Na', Nr, rfl, rfl, a1, a2, a3⟩ := h
    exact ⟨ov', av', _, No', Na', _, rfl, by simp only [List.append_assoc], a1, a2, DidM.snoc h1 h2 a3⟩
theorem DidM.none {T : Nat} {i : Nat} : ∀ {did : Dids} {m : List (Int × Value)} {N : Hl}, DidM T did m N → hadD did i = none → mget m (i : Int) = none
  | [], m, N, h, _ => by obtain ⟨rfl, rfl⟩ := h; rfl
  | e :: r, m, N, h, hf => by
    obtain ⟨ov', av', m', No', Na', Nr, rfl, rfl, a1, a2, a3⟩ := h
    rw [hadD, List.find?_cons] at hf
    by_cases he : e.1 = i
    · simp [he] at hf
    · have hne : (e.1 == i) = false := by simpa using he
      rw [hne] at hf
      have ih := DidM.none a3 hf
      rw [mget, List.find?_cons]
      have h2 : (((e.1 : Int), Value.agg #[ov', av']).1 == (i : Int)) = false := by simp; omega
      rw [h2]
      exact ih
theorem DidM.some {T : Nat} {i : Nat} {x : Nat × Bs × Bs} : ∀ {did : Dids} {m : List (Int × Value)} {N : Hl}, DidM T did m N → hadD did i = some x →
    ∃ ov av A No Na B, mget m (i : Int) = Option.some (.agg #[ov, av]) ∧ N = A ++ (No ++ (Na ++ B)) ∧ Ow B8 T ov x.2.1 No ∧ Ow B8 T av x.2.2 Na
  | [], m, N, h, hf => by simp [hadD] at hf
  | e :: r, m, N, h, hf => by
    obtain ⟨ov', av', m', No', Na', Nr, rfl, rfl, a1, a2, a3⟩ := h
    rw [hadD, List.find?_cons] at hf
    by_cases he : e.1 = i
    · have ht : (e.1 == i) = true := by simpa using he
      rw [ht] at hf
      obtain rfl : e = x := Option.some.inj hf
      refine ⟨ov', av', [], No', Na', Nr, ?_, rfl, a1, a2⟩
      rw [mget, List.find?_cons]
      have h2 : (((e.1 : Int), Value.agg #[ov', av']).1 == (i : Int)) = true := by simp [he]
      rw [h2]
      rfl
    · have hne : (e.1 == i) = false := by simpa using he
      rw [hne] at hf
      obtain ⟨ov, av, A, No, Na, B, h1, rfl, h3, h4⟩ := DidM.some a3 hf
      refine ⟨ov, av, No' ++ (Na' ++ A), No, Na, B, ?_, by simp only [List.append_assoc], h3, h4⟩
      rw [mget, List.find?_cons]
      have h2 : (((e.1 : Int), Value.agg #[ov', av']).1 == (i : Int)) = false := by simp; omega
      rw [h2]
      exact h1
end Go.Proofs.YthhdilafnfcpbaaDoor
/- Structs in a row; what a worker hears, as the laws' rows of arguments. -/
namespace Go.Proofs.YthhdilafnfcpbaaDoor
open Go
theorem flat_at {X : Type} (c : X → List Value) {k : Nat} : ∀ {xs : List X}, (∀ x ∈ xs, (c x).length = k) → ∀ {i : Nat} (hi : i < xs.length), ((xs.map c).flatten.drop (i * k)).take k = c xs[i]
  | y :: ys, hc, 0, _ => by
    have h1 := hc y List.mem_cons_self
    simp only [List.map_cons, List.flatten_cons, Nat.zero_mul, List.drop_zero, List.getElem_cons_zero]
    rw [List.take_left' h1]
  | y :: ys, hc, i + 1, hi => by
    have h1 := hc y List.mem_cons_self
    have h2 := flat_at c (fun x hx => hc x (List.mem_cons_of_mem _ hx)) (i := i) (Nat.lt_of_succ_lt_succ hi)
    simp only [List.map_cons, List.flatten_cons, List.getElem_cons_succ]
    rw [← h2, Nat.add_mul, Nat.one_mul, Nat.add_comm (i * k) k, ← List.drop_drop, List.drop_left' h1]
theorem flat_length {X : Type} (c : X → List Value) {k : Nat} : ∀ {xs : List X}, (∀ x ∈ xs, (c x).length = k) → (xs.map c).flatten.length = xs.length * k
  | [], _ => by simp
  | y :: ys, hc => by
    have h1 := hc y List.mem_cons_self
    have h2 := flat_length c (fun x hx => hc x (List.mem_cons_of_mem _ hx)) (xs := ys)
    simp only [List.map_cons, List.flatten_cons, List.length_append, List.length_cons]
    rw [h1, h2, Nat.add_mul, Nat.one_mul, Nat.add_comm]
/-- an order, and where it is changed, by what -/
structure Heard where
  j : Int
  a : Int
  i : Int
  u : Value
  x : Value
  T : Bs
  L : Bs
  n : Bs
  at_ : Int
  sp : BitVec 8
def cellsH (e : Heard) : List Value := ordC e.j e.a e.i e.u e.x e.n ++ [I e.at_, B8 e.sp]
theorem cellsH_length {e : Heard} (h : e.n.length = 32) : (cellsH e).length = 39 := by simp [cellsH, ordC_length h]
theorem cellsH_ord {e : Heard} (h : e.n.length = 32) : ((cellsH e).drop 0).take 37 = ordC e.j e.a e.i e.u e.x e.n := by rw [List.drop_zero, cellsH, List.take_left' (ordC_length h)]
def HdOk (M : List Nat) (w : World) (e : Heard) : Prop := By M w e.u e.T ∧ By M w e.x e.L ∧ e.n.length = 32 ∧ e.T.length + e.L.length ≤ 1048576
def RdHd (M : List Nat) (w : World) (v : Value) (hs : List Heard) : Prop := Rd M w v hs.length 39 (hs.map cellsH).flatten ∧ ∀ e ∈ hs, HdOk M w e
theorem RdHd.get {M : List Nat} {w : World} {v : Value} {hs : List Heard} (h : RdHd M w v hs) {i : Nat} (hi : i < hs.length) :
    ∃ e ∈ hs, ((hs.map cellsH).flatten.drop (i * 39)).take 39 = cellsH e ∧ ((hs.map cellsH).flatten.drop (i * 39)).take 37 = ordC e.j e.a e.i e.u e.x e.n ∧ HdOk M w e := by
  have hc : ∀ e ∈ hs, (cellsH e).length = 39 := fun e he => cellsH_length (h.2 e he).2.2.1
  have h1 := flat_at cellsH hc hi
  have h2 := h.2 hs[i] (List.getElem_mem hi)
  refine ⟨hs[i], List.getElem_mem hi, h1, ?_, h2⟩
  have h3 := congrArg (List.take 37) h1
  rw [List.take_take] at h3
  rw [← cellsH_ord h2.2.2.1, List.drop_zero, ← h3]
  rfl
section
variable {P : Program} {E : Env} {ty t : TypeId} {w : World} {x : Operand}
/-- a part of an element of a slice -/
theorem q_loadRs {d : TypeDesc} {v : Value} {n K k j bb : Nat} {z : Value} {cs : List Value} (hT : P.underlying t = some d) (hf : flat d = false) (he : TI P t k bb z)
    (hx : E.ev x = some (.pointer (some (v.cellAt j)))) (hr : Rd [] w v n K cs) (hi : j + k ≤ n * K) (es : List Value) (hes : (cs.drop j).take k = es) : Runs P E (.load t x) ty w (.agg es.toArray) := by
  have hl := hr.len
  subst hes
  refine q_loadA hT hf he hx _ (by simp; omega) fun m u hu => ?_
  rw [List.getElem?_take] at hu
  split at hu
  · rename_i hj
    rw [List.getElem?_drop] at hu
    have h1 := hr.at (j := j + m) (by omega)
    rw [hu] at h1
    rw [← h1, cellAt_add]
  · cases hu
end
end Go.Proofs.YthhdilafnfcpbaaDoor
/- What a worker did: answers are decoded, once for each index; results in a row, in memory. -/
namespace Go.Proofs.YthhdilafnfcpbaaDoor
open Go
/-- what was done has an index of its own each, and answers that are results of that index -/
def DidOK (n h : Nat) (did : Dids) : Prop := (∀ a ∈ did, ∀ b ∈ did, a.1 = b.1 → a = b) ∧ ∀ d ∈ did, ∃ T V A B, decR n h d.2.2 = ((T, V, d.1, A, B), 0)
theorem DidOK.nil {n h : Nat} : DidOK n h [] := ⟨(fun _ h => by cases h), (fun _ h => by cases h)⟩
/-- results in a row -/
structure Res where
  tv : Value
  vv : Value
  T : Bs
  V : Bs
  ix : Nat
  ua : Value
  xa : Value
  A : List Bs
  B : List Bs
def cellsR (e : Res) : List Value := [e.tv, e.vv, I e.ix, e.ua, e.xa]
theorem cellsR_length (e : Res) : (cellsR e).length = 5 := rfl
def ResIn (M : List Nat) (w : World) (e : Res) : Prop := By M w e.tv e.T ∧ By M w e.vv e.V ∧ RdD M w e.ua e.A ∧ RdD M w e.xa e.B
def ResOk (e : Res) : Prop := e.T.length ≤ 100000 ∧ e.V.length ≤ 100000 ∧ Dg e.A ∧ Dg e.B ∧ e.A.length ≤ 4096 ∧ e.B.length ≤ 4096
/-- their inner slices are in that memory -/
def ResM (had : List Res) (N : Hl) : Prop := ∀ e ∈ had, ResOk e ∧ ∀ M w, RO M w N → ResIn M w e
theorem ResM.nil : ResM [] [] := fun _ h => by cases h
theorem RO.left {M : List Nat} {w : World} {N N' : Hl} (h : RO M w (N ++ N')) : RO M w N := fun p hp => h p (List.mem_append_left _ hp)
theorem RO.right {M : List Nat} {w : World} {N N' : Hl} (h : RO M w (N ++ N')) : RO M w N' := fun p hp => h p (List.mem_append_right _ hp)
theorem ResM.snoc {T D : Nat} {had : List Res} {N Na Nb No Np : Hl} {e : Res} (h : ResM had N) (hk : ResOk e) (h1 : Ow B8 T e.tv e.T Na) (h2 : Ow B8 T e.vv e.V Nb) (h3 : OwD D e.ua e.A No) (h4 : OwD D e.xa e.B Np) : ResM (had ++ [e]) (N ++ (Na ++ (Nb ++ (No ++ Np)))) := fun e' he => by
  rcases List.mem_append.1 he with he | he
  · exact ⟨(h e' he).1, fun M w hw => (h e' he).2 M w hw.left⟩
  · obtain rfl := List.mem_singleton.1 he
    exact ⟨hk, fun M w hw => ⟨Own.ro h1 hw.right.left, Own.ro h2 hw.right.right.left, Own.ro h3 hw.right.right.right.left, Own.ro h4 hw.right.right.right.right⟩⟩
theorem ResM.get {had : List Res} {N : Hl} (h : ResM had N) {k : Nat} (hk : k < had.length) :
    ∃ e ∈ had, ((had.map cellsR).flatten)[k * 5 + 0]? = some e.tv ∧ ((had.map cellsR).flatten)[k * 5 + 1]? = some e.vv ∧ ((had.map cellsR).flatten)[k * 5 + 2]? = some (I e.ix) ∧ ((had.map cellsR).flatten.drop (k * 5 + 2)).take 3 = [I e.ix, e.ua, e.xa] ∧ ResOk e ∧
      (∀ M w, RO M w N → By M w e.tv e.T) ∧ (∀ M w, RO M w N → By M w e.vv e.V) ∧ (∀ M w, RO M w N → RdD M w e.ua e.A) ∧ ∀ M w, RO M w N → RdD M w e.xa e.B := by
  have h1 := flat_at cellsR (k := 5) (fun e _ => cellsR_length e) hk
  obtain ⟨h2, h3⟩ := h _ (List.getElem_mem hk)
  have hc : ∀ j, j < 5 → ((had.map cellsR).flatten)[k * 5 + j]? = (cellsR had[k])[j]? := fun j hj => by
    rw [← h1, List.getElem?_take, if_pos hj, List.getElem?_drop]
  refine ⟨had[k], List.getElem_mem hk, hc 0 (by decide), hc 1 (by decide), hc 2 (by decide), ?_, h2, fun M w hw => (h3 M w hw).1, fun M w hw => (h3 M w hw).2.1, fun M w hw => (h3 M w hw).2.2.1, fun M w hw => (h3 M w hw).2.2.2⟩
  have h4 : (((((had.map cellsR).flatten).drop (k * 5)).take 5).drop 2).take 3 = ((cellsR had[k]).drop 2).take 3 := by rw [h1]
  rw [List.drop_take, List.take_take, List.drop_drop] at h4
  exact h4
/-- each is an answer that was given -/
def HadOK (n h : Nat) (did : Dids) (had : List Res) : Prop := ∀ e ∈ had, ∃ d ∈ did, d.1 = e.ix ∧ decR n h d.2.2 = ((e.T, e.V, e.ix, e.A, e.B), 0)
theorem HadOK.nil {n h : Nat} {did : Dids} : HadOK n h did [] := fun _ h => by cases h
theorem HadOK.more {n h : Nat} {did did' : Dids} {had : List Res} (hh : HadOK n h did had) (hs : ∀ d ∈ did, d ∈ did') : HadOK n h did' had := fun e he => by
  obtain ⟨d, h1, h2⟩ := hh e he
  exact ⟨d, hs d h1, h2⟩
theorem HadOK.snoc {n h : Nat} {did : Dids} {had : List Res} {e : Res} (hh : HadOK n h did had) (hd : ∃ d ∈ did, d.1 = e.ix ∧ decR n h d.2.2 = ((e.T, e.V, e.ix, e.A, e.B), 0)) : HadOK n h did (had ++ [e]) := fun e' he => by
  rcases List.mem_append.1 he with he | he
  · exact hh e' he
  · obtain rfl := List.mem_singleton.1 he
    exact hd
theorem HadOK.same {n h : Nat} {did : Dids} {had : List Res} {e : Res} {d : Nat × Bs × Bs} {T V : Bs} {i : Nat} {A B : List Bs} (hok : DidOK n h did) (hh : HadOK n h did had) (he : e ∈ had) (hd : d ∈ did) (h2 : decR n h d.2.2 = ((T, V, i, A, B), 0)) (hi : e.ix = i) : e.T = T ∧ e.V = V ∧ e.A = A ∧ e.B = B := by
  obtain ⟨d', h3, h4, h5⟩ := hh e he
  obtain ⟨T', V', A', B', h6⟩ := hok.2 d hd
  rw [h2] at h6
  have h7 : i = d.1 := by simpa using congrArg (fun q => q.1.2.2.1) h6
  have h8 := hok.1 d' h3 d hd (by omega)
  subst h8
  rw [h2] at h5
  simp only [Prod.mk.injEq, and_true] at h5
  exact ⟨h5.1.symm, h5.2.1.symm, h5.2.2.2.1.symm, h5.2.2.2.2.symm⟩
section
variable {P : Program} {E : Env} {ty t t' : TypeId} {w : World} {x y : Operand} {M : List Nat} {w0 : World} {Hs : List Hl}
/-- a row of one struct -/
theorem lo_buildS {parts : List (Nat × Operand)} {e k bb : Nat} {z : Value} {cs : List Value} (hH : HS M w0 w Hs) (ht : P.underlying t = some (.slice e)) (he : TI P e k bb z) (hp : evs E parts = some [(0, .agg cs.toArray)]) (hk : cs.length = k) (hk0 : 0 < k) (hk2 : k ≤ 4096) :
    Lo P E (.buildSlice t 1 parts.toArray) ty w (fun u w' => ∃ N, Own e k u 1 cs N ∧ HS M w0 w' (N :: Hs)) := by
  refine lo_buildSlice (k := k) (bb := bb) (z := z) hH hp (by omega) fun w => ?_
  have h3 : ¬ 1 * k > 2 ^ 24 := by omega
  have h4 : ¬ 1 * k = 0 := by omega
  simp only [Instr.buildSlice, Sem.run_bind, run_underlying ht, he.size, he.zero, Result.andThen_ok, if_neg h3, if_neg h4, Sem.run_pure]
  obtain ⟨zs, hzs, hzl⟩ : ∃ zs : List Value, ((Array.range (1 * k)).map (z.cells[· % z.cells.size]!)) = zs.toArray ∧ zs.length = k := ⟨_, Array.toArray_toList.symm, by simp⟩
  have hf := fill_cons (place := fun i => some (i * k, k)) (c := zs) (i := 0) (off := 0) (size := k) (v := .agg cs.toArray) (rest := []) (by simp) (by simpa [Value.cells] using hk) (by omega)
  have h5 : putAt zs 0 (Value.agg cs.toArray).cells.toList = cs := by
    rw [putAt_eq _ _ _ (by simp [Value.cells]; omega)]
    simp [Value.cells, hk, hzl]
  rw [h5] at hf
  rw [hzs, hf]
  simp [Instr.fill, newRow]
end
section
variable {P : Program} {ops : Array Oper} {Q : Exit → Act → World → Prop} {S : World → Prop} {keep : Nat → Bool} {n fuel : Nat} {E : Env} {a : Act} {w : World} {d : Nat} {op : Op} {ty : TypeId} {pos : String} {af : Array Edge}
end
end Go.Proofs.YthhdilafnfcpbaaDoor
/- The document's worker in memory; what it did, in a row. -/
namespace Go.Proofs.YthhdilafnfcpbaaDoor
open Go
set_option linter.unusedSimpArgs false
/-- a config's first bounds -/
def PreC (cs : List Int) (q : Nat) : Prop := (0 < q → 0 ≤ cs.getD 0 0 ∧ cs.getD 0 0 ≤ 2) ∧ (1 < q → 2 * cs.getD 0 0 + 1 ≤ cs.getD 1 0 ∧ cs.getD 1 0 ≤ 8) ∧ (2 < q → 0 ≤ cs.getD 2 0 ∧ cs.getD 2 0 ≤ 6) ∧ (3 < q → 0 ≤ cs.getD 6 0 ∧ cs.getD 6 0 ≤ 6) ∧ (4 < q → 1 ≤ cs.getD 3 0 ∧ cs.getD 3 0 ≤ 256) ∧ (5 < q → 1 ≤ cs.getD 4 0 ∧ cs.getD 4 0 ≤ 64) ∧ (6 < q → 1 ≤ cs.getD 5 0 ∧ cs.getD 5 0 ≤ 10000)
theorem PreC.right {cs : List Int} (h : PreC cs 7) : RightC cs := by
  obtain ⟨h0, h1, h2, h3, h4, h5, h6⟩ := h
  exact ⟨h0 (by decide), h1 (by decide), h2 (by decide), h3 (by decide), h4 (by decide), h5 (by decide), h6 (by decide)⟩
section
variable {s : Bs} {n h x y : Int} {rest : List Value}
end
/-- what was done, as a row's elements -/
structure Dr where
  ix : Nat
  ov : Value
  av : Value
  l : Bs
  a : Bs
def cellsD (e : Dr) : List Value := [I e.ix, e.ov, e.av]
theorem cellsD_length (e : Dr) : (cellsD e).length = 3 := rfl
def Dr.did (e : Dr) : Nat × Bs × Bs := (e.ix, e.l, e.a)
/-- their bytes are in that memory -/
def DrM (rs : List Dr) (N : Hl) : Prop := ∀ e ∈ rs, ∀ M w, RO M w N → By M w e.ov e.l ∧ By M w e.av e.a
theorem DrM.nil : DrM [] [] := fun _ h => by cases h
theorem DrM.snoc {T : Nat} {rs : List Dr} {N Na Nb : Hl} {e : Dr} (h : DrM rs N) (h1 : Ow B8 T e.ov e.l Na) (h2 : Ow B8 T e.av e.a Nb) : DrM (rs ++ [e]) (N ++ (Na ++ Nb)) := fun e' he M w hw => by
  rcases List.mem_append.1 he with he | he
  · exact h e' he M w hw.left
  · obtain rfl := List.mem_singleton.1 he
    exact ⟨Own.ro h1 hw.right.left, Own.ro h2 hw.right.right⟩
theorem DrM.get {rs : List Dr} {N : Hl} (h : DrM rs N) {k : Nat} (hk : k < rs.length) :
    ∃ e ∈ rs, (rs.map Dr.did)[k]? = some e.did ∧ ((rs.map cellsD).flatten)[k * 3 + 0]? = some (I e.ix) ∧ ((rs.map cellsD).flatten)[k * 3 + 1]? = some e.ov ∧ ((rs.map cellsD).flatten)[k * 3 + 2]? = some e.av ∧
      (∀ M w, RO M w N → By M w e.ov e.l) ∧ ∀ M w, RO M w N → By M w e.av e.a := by
  have h1 := flat_at cellsD (k := 3) (fun e _ => cellsD_length e) hk
  have h3 := h _ (List.getElem_mem hk)
  have hc : ∀ j, j < 3 → ((rs.map cellsD).flatten)[k * 3 + j]? = (cellsD rs[k])[j]? := fun j hj => by
    rw [← h1, List.getElem?_take, if_pos hj, List.getElem?_drop]
  exact ⟨rs[k], List.getElem_mem hk, by rw [List.getElem?_map, List.getElem?_eq_getElem hk]; rfl, hc 0 (by decide), hc 1 (by decide), hc 2 (by decide), fun M w hw => (h3 M w hw).1, fun M w hw => (h3 M w hw).2⟩
/-- the first of an index -/
def NoD (did : Dids) (i x : Nat) : Prop := ∀ j < i, ∀ d, did[j]? = some d → d.1 ≠ x
theorem NoD.zero {did : Dids} {x : Nat} : NoD did 0 x := fun j hj => absurd hj (Nat.not_lt_zero j)
theorem NoD.succ {did : Dids} {i x : Nat} {d : Nat × Bs × Bs} (h : NoD did i x) (hd : did[i]? = some d) (hne : ¬ d.1 = x) : NoD did (i + 1) x := fun j hj d' hd' => by
  by_cases h2 : j = i
  · subst h2; rw [hd] at hd'; cases hd'; exact hne
  · exact h j (by omega) d' hd'
theorem NoD.none {did : Dids} {i x : Nat} (h : NoD did i x) (hi : did.length ≤ i) : hadD did x = Option.none := by
  rw [hadD, List.find?_eq_none]
  intro d hd
  obtain ⟨j, hj, rfl⟩ := List.mem_iff_getElem.1 hd
  simpa using h j (by omega) _ (List.getElem?_eq_getElem hj)
theorem NoD.some : ∀ {did : Dids} {i x : Nat} {d : Nat × Bs × Bs} (h : NoD did i x) (hd : did[i]? = Option.some d) (he : d.1 = x), hadD did x = Option.some d
  | [], _, _, _, _, hd, _ => by simp at hd
  | e :: r, 0, x, d, h, hd, he => by
    simp at hd; subst hd
    rw [hadD, List.find?_cons, show (e.1 == x) = true by simpa using he]
  | e :: r, i + 1, x, d, h, hd, he => by
    have h1 := h 0 (Nat.succ_pos _) e rfl
    rw [hadD, List.find?_cons, show (e.1 == x) = false by simpa using h1]
    exact NoD.some (did := r) (i := i) (fun j hj d' hd' => h (j + 1) (Nat.succ_lt_succ hj) d' hd') hd he
end Go.Proofs.YthhdilafnfcpbaaDoor
