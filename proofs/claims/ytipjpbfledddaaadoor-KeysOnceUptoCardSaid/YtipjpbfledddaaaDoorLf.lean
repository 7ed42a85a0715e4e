/- Calls, function values, equal arrays, copy, make, strings turned to bytes, results; the kinds of whole numbers, each by its name. -/
import Derived.Test.YtipjpbfledddaaaDoorLe
import Derived.Laws.StructEq
import Derived.Laws.MakeOwn
namespace Go.Proofs.YtipjpbfledddaaaDoor
open Go
set_option linter.unusedVariables false
set_option linter.unusedSimpArgs false

/-- a call returns, and what it returns and leaves is Post -/
def Ret (Post : Value → World → Prop) (e : Ending) (w : World) : Prop := ∃ v, e = .returned v ∧ Post v w

/-- a function with a text -/
def FnOk (P : Program) (f : FuncId) : Prop := ∃ fn, P.funcs[f]? = some fn ∧ (fn.name == "runtime.NumGoroutine") = false ∧ fn.body.isNone = false

def evl (E : Env) : List Operand → Option (List Value)
  | [] => some []
  | x :: r => match E.ev x, evl E r with
    | some v, some l => some (v :: l)
    | _, _ => none

theorem evl_map {E : Env} {ρ : Operand → Value} (hρ : ∀ x u, E.ev x = some u → ρ x = u) : ∀ {l : List Operand} {l' : List Value}, evl E l = some l' → l.map ρ = l'
  | [], l', h => by simp [evl] at h; simp [h]
  | x :: r, l', h => by
    unfold evl at h
    split at h
    · rename_i v l hv hl
      cases h
      simp [hρ _ _ hv, evl_map hρ hl]
    · cases h

section
variable {P : Program} {E : Env} {ty t t' : TypeId} {w : World} {x y : Operand} {M : List Nat} {w0 : World} {Hs : List Hl}

theorem lo_callv {f : FuncId} {first cap vs : List Value} {as : List Operand} {ats : Array TypeId} {Post : Value → World → Prop} (hf : FnOk P f) (hx : E.ev x = some (.func (.func f) first.toArray cap.toArray))
    (has : evl E as = some vs) (hc : Calls P f (first ++ vs ++ cap).toArray w (Ret Post)) : Lo P E (.call ⟨.value x, as.toArray, ats⟩) ty w Post := by
  intro a dst pos af g K Q ha hK
  obtain ⟨fn, h1, h2, h3⟩ := hf
  have h2' : ¬ fn.name = "runtime.NumGoroutine" := by simpa using h2
  have h3' : ¬ fn.body = none := fun e => by simp [e] at h3
  have h4 := evl_map ha has
  unfold Oper.wp
  have hr : (execOp a.eval ⟨dst, .call ⟨.value x, as.toArray, ats⟩, ty, pos, af, g⟩).run P w = .ok (.enter f (first ++ vs ++ cap).toArray) w := by
    simp [execOp, resolve, ha _ _ hx, Deferred.ofValue, invoke, callFunc, h1, h2', h3', h4, Sem.run_bind]
  rw [hr, Oper.upon_enter]
  refine hc.mono fun e w' he => ?_
  obtain ⟨v, rfl, hp⟩ := he
  exact hK v w' hp

theorem lo_call {f : FuncId} {vs : List Value} {as : List Operand} {ats : Array TypeId} {Post : Value → World → Prop} (hf : FnOk P f)
    (has : evl E as = some vs) (hc : Calls P f vs.toArray w (Ret Post)) : Lo P E (.call ⟨.value (.func f), as.toArray, ats⟩) ty w Post :=
  lo_callv (first := []) (cap := []) hf rfl has (by simpa using hc)

theorem q_makeFunc {fn : Fn} {fs cs : List Operand} {vs us : List Value} (hf : evl E fs = some vs) (hc : evl E cs = some us) : Runs P E (.makeFunc fn fs.toArray cs.toArray) ty w (.func fn vs.toArray us.toArray) := by
  intro ρ dst pos af g hρ
  simp [execOp, Instr.makeFunc, evl_map hρ hf, evl_map hρ hc]

/-! ### equal arrays -/
theorem run_eqItems_ints (d : Nat) {e : TypeId} {k : IntKind} (he : P.underlying e = some (.int k)) (p q : List (BitVec k.bits)) (hpq : p.length = q.length) : ∀ (m s : Nat), s + m = p.length →
    (Op.eqItems (d + 1) e 1 (p.map (UV k)).toArray (q.map (UV k)).toArray (List.range' s m)).run P w = .ok (decide (p.drop s = q.drop s)) w
  | 0, s, hs => by
    have h1 : p.drop s = [] := List.drop_eq_nil_of_le (by omega)
    have h2 : q.drop s = [] := List.drop_eq_nil_of_le (by omega)
    simp [Op.eqItems, h1, h2]
  | m + 1, s, hs => by
    have h1 : s < p.length := by omega
    have h2 : s < q.length := by omega
    have ih := run_eqItems_ints d he p q hpq m (s + 1) (by omega)
    have e1 : p.drop s = p[s] :: p.drop (s + 1) := List.drop_eq_getElem_cons h1
    have e2 : q.drop s = q[s] :: q.drop (s + 1) := List.drop_eq_getElem_cons h2
    have hp1 : (part e (p.map (UV k)).toArray (s * 1)).run P w = .ok (UV k p[s]) w := by
      simp [part, isAgg_flat he rfl, h1]
    have hp2 : (part e (q.map (UV k)).toArray (s * 1)).run P w = .ok (UV k q[s]) w := by
      simp [part, isAgg_flat he rfl, h2]
    have hq : (Op.equalIn (d + 1) e (UV k p[s]) (UV k q[s])).run P w = .ok (decide (p[s] = q[s])) w := by
      rw [run_equalIn_int (h := he)]
      congr 1
      by_cases h : p[s] = q[s]
      · simp [h]
      · have : ¬ (p[s]).toNat = (q[s]).toNat := fun e => h (BitVec.eq_of_toNat_eq e)
        have h3 : (((p[s]).toNat : Int) == (q[s]).toNat) = false := by simp; omega
        rw [h3]; simp [h]
    rw [List.range'_succ]
    simp only [Op.eqItems, Sem.run_bind, hp1, hp2, hq, Result.andThen_ok]
    have e3 : (p.drop s = q.drop s) ↔ (p[s] = q[s] ∧ p.drop (s + 1) = q.drop (s + 1)) := by rw [e1, e2, List.cons.injEq]
    by_cases h : p[s] = q[s]
    · have e4 : decide (p.drop s = q.drop s) = decide (p.drop (s + 1) = q.drop (s + 1)) := decide_eq_decide.2 (e3.trans ⟨fun h => h.2, fun h' => ⟨h, h'⟩⟩)
      rw [e4]
      simp [h, ih]
    · have e4 : decide (p.drop s = q.drop s) = false := decide_eq_false fun h' => h (e3.1 h').1
      rw [e4]
      simp [h]

/-- what a test of two arrays of whole numbers asks of the tables -/
def EqA (P : Program) (t : TypeId) (k : IntKind) (n : Nat) : Prop :=
  ∃ e i, P.underlying t = some (.array n e) ∧ P.info? e = some i ∧ P.cellsOf e = 1 ∧ P.underlying e = some (.int k) ∧ P.eqGuardType P.depth t = false

theorem run_eqA {k : IntKind} {n : Nat} (h : EqA P t k n) {p q : List (BitVec k.bits)} (hp : p.length = n) (hq : q.length = n) :
    (Op.equalIn 10000 t (.agg (p.map (UV k)).toArray) (.agg (q.map (UV k)).toArray)).run P w = .ok (decide (p = q)) w := by
  obtain ⟨e, i, h1, h2, h3, h4, h5⟩ := h
  have := run_eqItems_ints (w := w) 9998 h4 p q (by omega) n 0 (by omega)
  rw [run_equalIn_array w 9999 _ _ h1 h2, h3, List.range_eq_range', this]
  simp

theorem q_eqlA {k : IntKind} {n : Nat} {p q : List (BitVec k.bits)} {vx vy : Array Value} (h : EqA P t k n) (hx : E.ev x = some (.agg vx)) (hy : E.ev y = some (.agg vy)) (ex : vx = (p.map (UV k)).toArray) (ey : vy = (q.map (UV k)).toArray) (hp : p.length = n) (hq : q.length = n) :
    Runs P E (.binOp .eql t x y t') ty w (.bool (decide (p = q))) := by
  intro ρ dst pos af g hρ
  subst ex; subst ey
  have h5 := h
  obtain ⟨_, _, _, _, _, _, h5⟩ := h5
  simp only [execOp, hρ _ _ hx, hρ _ _ hy, Sem.run_bind, run_eqGuard_agg _ _ _ _ _ _ _ h5, Result.andThen_ok, run_eql_struct, run_eqA h hp hq]
  simp
theorem q_neqA {k : IntKind} {n : Nat} {p q : List (BitVec k.bits)} {vx vy : Array Value} (h : EqA P t k n) (hx : E.ev x = some (.agg vx)) (hy : E.ev y = some (.agg vy)) (ex : vx = (p.map (UV k)).toArray) (ey : vy = (q.map (UV k)).toArray) (hp : p.length = n) (hq : q.length = n) :
    Runs P E (.binOp .neq t x y t') ty w (.bool (decide (p ≠ q))) := by
  intro ρ dst pos af g hρ
  subst ex; subst ey
  have h5 := h
  obtain ⟨_, _, _, _, _, _, h5⟩ := h5
  simp only [execOp, hρ _ _ hx, hρ _ _ hy, Sem.run_bind, run_eqGuard_agg _ _ _ _ _ _ _ h5, Result.andThen_ok, run_neq_struct, run_eqA h hp hq]
  simp

/-! bools -/
theorem q_eqlB {p q : Bool} (hT : P.underlying t = some .bool) (hx : E.ev x = some (.bool p)) (hy : E.ev y = some (.bool q)) : Runs P E (.binOp .eql t x y t') ty w (.bool (decide (p = q))) := by
  intro ρ dst pos af g hρ
  simp only [execOp, hρ _ _ hx, hρ _ _ hy]
  have := run_equalIn_bool (P := P) w 9999 t p q hT
  simp [eqGuard, binOp, Op.equal, Op.maxDepth, this]
  cases p <;> cases q <;> rfl

/-! pointers against nil -/
theorem run_ptrNil {e : TypeId} (hT : P.underlying t = some (.pointer e)) (d : Nat) (a : Addr) : (Op.equalIn (d + 1) t (.pointer (some a)) (.pointer none)).run P w = .ok false w := by simp [Op.equalIn, run_underlying hT]
theorem run_nilNil {e : TypeId} (hT : P.underlying t = some (.pointer e)) (d : Nat) : (Op.equalIn (d + 1) t (.pointer none) (.pointer none)).run P w = .ok true w := by simp [Op.equalIn, run_underlying hT]
theorem q_ptrNil {e : TypeId} {a : Addr} (hT : P.underlying t = some (.pointer e)) (hx : E.ev x = some (.pointer (some a))) (hy : E.ev y = some (.pointer none)) : Runs P E (.binOp .eql t x y t') ty w (.bool false) := by
  intro ρ dst pos af g hρ
  have h := run_ptrNil (w := w) hT 9999 a
  simp [execOp, hρ _ _ hx, hρ _ _ hy, eqGuard, binOp, Op.equal, Op.maxDepth, h]
theorem q_nilNil {e : TypeId} (hT : P.underlying t = some (.pointer e)) (hx : E.ev x = some (.pointer none)) (hy : E.ev y = some (.pointer none)) : Runs P E (.binOp .eql t x y t') ty w (.bool true) := by
  intro ρ dst pos af g hρ
  have h := run_nilNil (w := w) hT 9999
  simp [execOp, hρ _ _ hx, hρ _ _ hy, eqGuard, binOp, Op.equal, Op.maxDepth, h]

/-! ### a string turned to bytes -/
theorem lo_strBytes {e : TypeId} {s : ByteArray} (hH : HS M w0 w Hs) (hs : P.underlying t = some .string) (hd : P.underlying t' = some (.slice e)) (he : P.underlying e = some (.int .u8)) (hx : E.ev x = some (.string s)) :
    Lo P E (.convert t t' x) ty w (fun v w' => ∃ N, Own e 1 v s.size ((sBytes s).map B8) N ∧ HS M w0 w' (N :: Hs)) := by
  intro a dst pos af g K Q ha hK
  have hr := Lib.run_convert_string_bytes (P := P) w t t' e s hs hd he
  simp only [Oper.wp, execOp, ha _ _ hx, Sem.run_bind, hr, Result.andThen_ok, Sem.run_pure, Oper.upon_value]
  have hcells : (Lib.bytesCells w e s) = ([] ++ (sBytes s).map B8 ++ (List.replicate (grownCap w s.size 0 e - s.size) (Value.int .u8 0))).toArray := by
    rw [sBytes_cells]
    apply Array.ext'
    simp [Lib.bytesCells, Lib.strCells]
  have hge : s.size ≤ grownCap w s.size 0 e := grownCap_ge w s.size 0 e
  refine hK _ _ ⟨[(w.heap.size, .cells (Lib.bytesCells w e s) e ((Lib.bytesCells w e s).size, (Lib.bytesCells w e s).size + 1))], ⟨by simp [sBytes_length], .inr ⟨w.heap.size, 0, _, [], List.replicate (grownCap w s.size 0 e - s.size) (Value.int .u8 0), ((Lib.bytesCells w e s).size, (Lib.bytesCells w e s).size + 1), rfl, by rw [← hcells], rfl, hge, by simp, ?_⟩⟩, ?_⟩
  · intro i hi
    have : i < (Lib.bytesCells w e s).size := by rw [hcells]; simpa using hi
    simp
    omega
  · refine HS.call0 (Ns2 := [[(w.heap.size, _)]]) hH ⟨rfl, rfl, rfl, by rw [Lib.bytesWorld_size]; omega, fun b hb _ => Lib.bytesWorld_at_old w e s b hb, ?_, ?_, by simp, ?_⟩
    · intro N hN p hp
      obtain rfl := List.mem_singleton.1 hN
      obtain rfl := List.mem_singleton.1 hp
      exact Lib.bytesWorld_at_new w e s
    · intro N hN
      obtain rfl := List.mem_singleton.1 hN
      simp
    · intro N hN p hp
      obtain rfl := List.mem_singleton.1 hN
      obtain rfl := List.mem_singleton.1 hp
      exact .inr (Nat.le_refl _)

/-! ### make -/
theorem lo_make {e k bb : Nat} {z : Value} {kl kc : IntKind} {n : Nat} {m : Int} (hH : HS M w0 w Hs) (ht : P.underlying t = some (.slice e)) (he : TI P e k bb z) (hz : z.cells.size = k)
    (hx : E.ev x = some (.int kl m)) (hy : E.ev y = some (.int kc m)) (hm : m = n) (hb : bb * n ≤ 281474976710656) (hn : n ≤ 9223372036854775807) :
    Lo P E (.makeSlice t x y) ty w (fun v w' => ∃ N, Own e k v n (List.replicate n z.cells.toList).flatten N ∧ HS M w0 w' (N :: Hs)) := by
  intro a dst pos af g K Q ha hK
  obtain ⟨i, hi, hik, hib, hiz⟩ := he
  subst hm
  have hb' : (i.bytes : Int) * (n : Int) ≤ 281474976710656 := by
    have h : ((i.bytes * n : Nat) : Int) ≤ 281474976710656 := by rw [hib]; omega
    rwa [Int.natCast_mul] at h
  have hr := run_make (P := P) w t e i z ht hi hiz kl kc n n (by omega) (Int.le_refl _) hb' (by omega)
  simp only [Oper.wp, execOp, ha _ _ hx, ha _ _ hy, Sem.run_bind, hr, Result.andThen_ok, Sem.run_pure, Oper.upon_value, Int.toNat_natCast, hik]
  have hcells : madeCells z.cells (n * k) = (List.replicate n z.cells.toList).flatten.toArray := by
    apply Array.ext'
    apply List.ext_getElem?
    intro j
    subst hz
    have hfl : ∀ (n j : Nat) (l : List Value), (List.replicate n l).flatten[j]? = if j < n * l.length then l[j % l.length]? else none := by
      intro n
      induction n with
      | zero => simp
      | succ n ih =>
        intro j l
        rw [List.replicate_succ, List.flatten_cons, List.getElem?_append]
        rcases Nat.eq_zero_or_pos l.length with h0 | h0
        · have : l = [] := List.eq_nil_of_length_eq_zero h0
          subst this; simp
        · by_cases h1 : j < l.length
          · rw [if_pos h1, Nat.mod_eq_of_lt h1, if_pos (by rw [Nat.add_mul]; omega)]
          · rw [if_neg h1, ih, Nat.add_mul, Nat.one_mul]
            rw [show (j - l.length) % l.length = j % l.length by rw [← Nat.mod_eq_sub_mod (by omega)]]
            by_cases h2 : j - l.length < n * l.length
            · rw [if_pos h2, if_pos (by omega)]
            · rw [if_neg h2, if_neg (by omega)]
    simp only [List.toList_toArray, hfl]
    by_cases hj : j < n * z.cells.size
    · rw [if_pos (by simpa using hj)]
      have hp : 0 < z.cells.size := by rcases Nat.eq_zero_or_pos z.cells.size with h | h; · rw [h] at hj; omega
                                       · exact h
      have hlt := Nat.mod_lt j hp
      simp [madeCells, hj, hlt]
    · rw [if_neg (by simpa using hj)]
      simp [madeCells]; omega
  rw [hcells]
  refine hK _ _ ⟨_, ⟨by simp [List.length_flatten, hz, List.map_replicate, List.sum_replicate_nat], .inr ⟨w.heap.size, 0, n, [], [], (0, 0), rfl, rfl, rfl, Nat.le_refl _, by simp, soft0 _⟩⟩, ?_⟩
  have := hH.alloc (.cells (List.replicate n z.cells.toList).flatten.toArray e)
  simpa using this

/-! ### copy onto an array of one's own, from its begin -/
theorem lo_copyA {e k bb : Nat} {z : Value} {b o T : Nat} {fr : Nat × Nat} {c : List Value} {rest : List Hl} {xv : Value} {n m cap : Nat} {news : List Value} {d : TypeDesc}
    (hH : HS M w0 w ([(b, Obj.cells c.toArray T fr)] :: rest)) (ht : P.underlying t = some (.slice e)) (he : TI P e k bb z)
    (hx : E.ev x = some (.slice (some ⟨b, o, none⟩) n cap)) (hy : E.ev y = some xv) (hr : Rd [] w xv m k news) (ho : o + n * k ≤ c.length) (hf : soft fr c.length) (h1 : ∀ u ∈ news, u.oneCell' = true) :
    Lo P E (.call ⟨.builtin .copy, #[x, y], #[t, t']⟩) ty w (fun v w' => v = I (min m n : Nat) ∧ HS M w0 w' ([(b, Obj.cells (putAt c o (news.take (min m n * k))).toArray T fr)] :: rest)) := by
  intro a dst pos af g K Q ha hK
  have hb : w.heap[b]? = some (.cells c.toArray T fr) := hH.has [(b, Obj.cells c.toArray T fr)] List.mem_cons_self (b, _) (List.mem_singleton.2 rfl)
  have hc := hr.firstCells (P := P) (min m n) (Nat.min_le_left _ _)
  have hlen : (hr.src (P := P)).lenOf w = (hr.src (P := P)).lenOf w := rfl
  have hlo := (hr.src (P := P)).lenOf w
  have hmn : min m n * k ≤ n * k := Nat.mul_le_mul_right k (Nat.min_le_right _ _)
  obtain ⟨w', e1, e2, e3, e4, e5, e6, e7⟩ := run_storeCells_own (P := P) b T fr (news.take (min m n * k)) c o 0 w hb (by simp; omega) hf (fun u hu => h1 u (List.mem_of_mem_take hu))
  have hrun : (Builtin.copy_ #[t, t'] ty #[.slice (some ⟨b, o, none⟩) n cap, xv]).run P w = .ok (I (min m n : Nat)) w' := by
    simp only [Builtin.copy_]
    simp [run_underlying ht, hlo, he.size, hc, e1, goInt, Nat.min_def] at e1 hc ⊢
  simp only [Oper.wp, execOp, resolve, invoke, builtin, Sem.run_bind, Sem.run_pure, Result.andThen_ok, List.map_toArray, List.map_cons, List.map_nil, ha _ _ hx, ha _ _ hy, hrun]
  refine hK _ w' ⟨rfl, HS.turn hH e5 e6 e7 e4 (fun b' hb' => e3 b' fun e => hb' (b, _) (List.mem_singleton.2 rfl) e.symm) rfl fun p hp => ?_⟩
  obtain rfl := List.mem_singleton.1 hp
  simpa using e2
end
end Go.Proofs.YtipjpbfledddaaaDoor
