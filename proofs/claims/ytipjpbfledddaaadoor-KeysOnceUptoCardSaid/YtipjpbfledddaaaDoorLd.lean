/- Operations that look at memory, write it, make it. -/
import Derived.Test.YtipjpbfledddaaaDoorLc
import Derived.Laws.Append
import Derived.Laws.AppendOwn
import Derived.KernelRfl
namespace Go.Proofs.YtipjpbfledddaaaDoor
open Go
set_option linter.unusedVariables false
set_option linter.unusedSimpArgs false

/-- a type's row of the table -/
def TI (P : Program) (t k b : Nat) (z : Value) : Prop := ∃ i, P.info? t = some i ∧ i.size = k ∧ i.bytes = b ∧ i.zero = some z

theorem TI.size {P t k b z} (h : TI P t k b z) (w : World) : (sizeOf t).run P w = .ok k w := by
  obtain ⟨i, h1, h2, _, _⟩ := h
  simp [sizeOf, run_typeInfo w h1, h2]
theorem TI.zero {P t k b z} (h : TI P t k b z) (w : World) : (zeroValue t).run P w = .ok z w := by
  obtain ⟨i, h1, _, _, h2⟩ := h
  simp [zeroValue, run_typeInfo w h1, h2]

def flat : TypeDesc → Bool
  | .struct _ | .array _ _ => false
  | _ => true

theorem isAgg_flat {P : Program} {t : TypeId} {d : TypeDesc} (h : P.underlying t = some d) (hd : flat d = true) (w : World) : (isAgg t).run P w = .ok false w := by
  unfold isAgg
  simp only [Sem.run_bind, run_underlying h, Result.andThen_ok]
  cases d <;> first | rfl | cases hd
theorem isAgg_agg {P : Program} {t : TypeId} {d : TypeDesc} (h : P.underlying t = some d) (hd : flat d = false) (w : World) : (isAgg t).run P w = .ok true w := by
  unfold isAgg
  simp only [Sem.run_bind, run_underlying h, Result.andThen_ok]
  cases d <;> first | rfl | cases hd

theorem add_off (b o n : Nat) : (⟨b, o, none⟩ : Addr).add n = ⟨b, o + n, none⟩ := by
  unfold Addr.add; split <;> simp_all

/-- where a slice's cell j lies -/
def _root_.Go.Value.cellAt : Value → Nat → Addr
  | .slice (some a) _ _, j => ⟨a.block, a.off + j, none⟩
  | _, j => ⟨0, j, none⟩

theorem cellAt_add (v : Value) (j i : Nat) : (v.cellAt j).add i = v.cellAt (j + i) := by
  unfold Value.cellAt
  split <;> simp [add_off, Nat.add_assoc]

theorem Rd.at {w v n k cs} (h : Rd [] w v n k cs) {j : Nat} (hj : j < n * k) : w.cell? (v.cellAt j) = cs[j]? := by
  obtain ⟨h1, a, cap, rfl, h3, h4, h5⟩ := h
  cases a with
  | none => have := (h4 rfl).1; subst this; omega
  | some ad =>
    have hn0 : 0 < n := Nat.pos_of_ne_zero fun h => by subst h; omega
    obtain ⟨h6, _, arr, E, fr, h8, h9, h10⟩ := h5 ad rfl (by omega)
    have := h10 j hj
    simp [Value.cellAt, World.cell?, h8] at this ⊢
    exact this

section
variable {P : Program} {E : Env} {ty t t' : TypeId} {w : World} {x y : Operand} {M : List Nat} {w0 : World} {Hs : List Hl}

/-! ### lengths, places -/
/-- v is a slice of n elements -/
def Shp (v : Value) (n : Nat) : Prop := ∃ a cap, v = .slice a n cap ∧ n ≤ cap ∧ (a = none → n = 0) ∧ ∀ ad, a = some ad → 0 < cap → ad.spot = none
theorem Rd.shp {M w v n k cs} (h : Rd M w v n k cs) : Shp v n := by
  obtain ⟨_, a, cap, h2, h3, h4, h5⟩ := h
  exact ⟨a, cap, h2, h3, fun e => (h4 e).1, fun ad e hc => (h5 ad e hc).1⟩
theorem Own.shp {E k v n cs N} (h : Own E k v n cs N) : Shp v n := by
  rcases h.2 with ⟨rfl, rfl, _⟩ | ⟨b, off, cap, pre, sp, fr, rfl, _, _, hc, _⟩
  · exact ⟨_, _, rfl, Nat.le_refl _, fun _ => rfl, fun ad h => by cases h⟩
  · exact ⟨_, _, rfl, hc, (fun h => by cases h), fun ad h _ => by cases h; rfl⟩
theorem Shp.arr (b o n : Nat) : Shp (.slice (some ⟨b, o, none⟩) n n) n := ⟨_, _, rfl, Nat.le_refl _, (fun h => by cases h), fun ad h _ => by cases h; rfl⟩
theorem Shp.nil : Shp (.slice none 0 0) 0 := ⟨_, _, rfl, Nat.le_refl _, fun _ => rfl, fun ad h => by cases h⟩

theorem q_len {T : TypeId} {e : TypeId} {v : Value} {n : Nat} (hT : P.underlying T = some (.slice e)) (hx : E.ev x = some v) (hr : Shp v n) :
    Runs P E (.call ⟨.builtin .len, #[x], #[T]⟩) ty w (I n) := by
  intro ρ dst pos af g hρ
  obtain ⟨a, cap, rfl, _⟩ := hr
  simp [execOp, resolve, invoke, builtin, hρ _ _ hx, Builtin.len_, run_underlying hT, goInt]
theorem q_lenV {T : TypeId} {e : TypeId} {a : Option Addr} {n c : Nat} (hT : P.underlying T = some (.slice e)) (hx : E.ev x = some (.slice a n c)) :
    Runs P E (.call ⟨.builtin .len, #[x], #[T]⟩) ty w (I n) := by
  intro ρ dst pos af g hρ
  simp [execOp, resolve, invoke, builtin, hρ _ _ hx, Builtin.len_, run_underlying hT, goInt]
theorem q_lenS {T : TypeId} {s : ByteArray} (hT : P.underlying T = some .string) (hx : E.ev x = some (.string s)) :
    Runs P E (.call ⟨.builtin .len, #[x], #[T]⟩) ty w (I s.size) := by
  intro ρ dst pos af g hρ
  simp [execOp, resolve, invoke, builtin, hρ _ _ hx, Builtin.len_, run_underlying hT, goInt]

theorem q_idx {e : TypeId} {v : Value} {n k bb : Nat} {z : Value} {kk : IntKind} {i : Int} (hT : P.underlying t = some (.slice e)) (he : TI P e k bb z) (hx : E.ev x = some v) (hy : E.ev y = some (.int kk i))
    (hr : Shp v n) (hi : 0 ≤ i ∧ i < n) : Runs P E (.indexAddr t x y) ty w (.pointer (some (v.cellAt (i.toNat * k)))) := by
  intro ρ dst pos af g hρ
  obtain ⟨a, cap, rfl, h3, h4, h5⟩ := hr
  cases a with
  | none => have := h4 rfl; omega
  | some ad =>
    have h6 := h5 ad rfl (by omega)
    obtain ⟨b, o, s⟩ := ad
    simp only at h6
    subst h6
    simp [execOp, hρ _ _ hx, hρ _ _ hy, Instr.indexAt, asIntOf, run_underlying hT, hi.1, hi.2, he.size, add_off, Value.cellAt]

/-- the address of an element of an array -/
theorem q_idxA {e : TypeId} {len k bb : Nat} {z : Value} {kk : IntKind} {i : Int} {b o : Nat} (hT : P.underlying t = some (.array len e)) (he : TI P e k bb z) (hx : E.ev x = some (.pointer (some ⟨b, o, none⟩))) (hy : E.ev y = some (.int kk i))
    (hi : 0 ≤ i ∧ i < len) : Runs P E (.indexAddr t x y) ty w (.pointer (some ⟨b, o + i.toNat * k, none⟩)) := by
  intro ρ dst pos af g hρ
  simp only [execOp, hρ _ _ hx, hρ _ _ hy, Instr.indexAt]
  simp [asIntOf, run_underlying hT, Instr.sureAddr, hi.1, hi.2, he.size, add_off]

/-- an element of an array at hand -/
theorem q_index {e : TypeId} {len k bb : Nat} {z : Value} {kk : IntKind} {i : Int} {cs : Array Value} {u : Value} {d : TypeDesc} (hT : P.underlying t = some (.array len e)) (he : TI P e k bb z) (hd : P.underlying e = some d) (hf : flat d = true)
    (hx : E.ev x = some (.agg cs)) (hy : E.ev y = some (.int kk i))
    (hi : 0 ≤ i ∧ i < len) (hu : cs[i.toNat * k]? = some u) : Runs P E (.index t x y) ty w u := by
  intro ρ dst pos af g hρ
  simp [execOp, hρ _ _ hx, hρ _ _ hy, Instr.index, asIntOf, run_underlying hT, hi.1, hi.2, he.size, part, isAgg_flat hd hf, hu]

theorem q_fieldAddr {fs : Array Field} {f : Field} {i k bb : Nat} {z : Value} {b o : Nat} (hT : P.underlying t = some (.struct fs)) (hf : fs[i]? = some f) (he : TI P f.type (k + 1) bb z)
    (hx : E.ev x = some (.pointer (some ⟨b, o, none⟩))) : Runs P E (.fieldAddr t x i) ty w (.pointer (some ⟨b, o + f.offset, none⟩)) := by
  intro ρ dst pos af g hρ
  simp [execOp, hρ _ _ hx, Instr.fieldAt, run_underlying hT, hf, Instr.sureAddr, fieldPlace, he.size, add_off]

theorem q_field {fs : Array Field} {f : Field} {i : Nat} {cs : Array Value} {d : TypeDesc} {u : Value} (hT : P.underlying t = some (.struct fs)) (hf : fs[i]? = some f) (hd : P.underlying f.type = some d) (hfl : flat d = true)
    (hx : E.ev x = some (.agg cs)) (hu : cs[f.offset]? = some u) : Runs P E (.field t x i) ty w u := by
  intro ρ dst pos af g hρ
  simp [execOp, hρ _ _ hx, Instr.field, run_underlying hT, hf, asAgg, part, isAgg_flat hd hfl, hu]
theorem q_fieldA {fs : Array Field} {f : Field} {i k bb : Nat} {z : Value} {cs : Array Value} {d : TypeDesc} (hT : P.underlying t = some (.struct fs)) (hf : fs[i]? = some f) (he : TI P f.type k bb z) (hd : P.underlying f.type = some d) (hfl : flat d = false)
    (hx : E.ev x = some (.agg cs)) : Runs P E (.field t x i) ty w (.agg (cs.extract f.offset (f.offset + k))) := by
  intro ρ dst pos af g hρ
  simp [execOp, hρ _ _ hx, Instr.field, run_underlying hT, hf, asAgg, part, isAgg_agg hd hfl, he.size]

/-! ### loads -/
theorem q_load_cell {d : TypeDesc} {ad : Addr} {u : Value} (hT : P.underlying t = some d) (hf : flat d = true) (hx : E.ev x = some (.pointer (some ad))) (hu : w.cell? ad = some u) :
    Runs P E (.load t x) ty w u := by
  intro ρ dst pos af g hρ
  simp [execOp, hρ _ _ hx, Instr.loadAt, Instr.sureAddr, loadVar, isAgg_flat hT hf, hu]

/-- an element of a slice -/
theorem q_loadR {d : TypeDesc} {v u : Value} {n k j : Nat} {cs : List Value} (hT : P.underlying t = some d) (hf : flat d = true) (hx : E.ev x = some (.pointer (some (v.cellAt j))))
    (hr : Rd [] w v n k cs) (hj : j < n * k) (hu : cs[j]? = some u) : Runs P E (.load t x) ty w u :=
  q_load_cell hT hf hx (by rw [hr.at hj, hu])

theorem run_loadAgg {d : TypeDesc} {ad : Addr} {k bb : Nat} {z : Value} (hT : P.underlying t = some d) (hf : flat d = false) (he : TI P t k bb z) (cs : List Value) (hk : cs.length = k)
    (h : ∀ j v, cs[j]? = some v → w.cell? (ad.add j) = some v) : (loadVar t ad).run P w = .ok (.agg cs.toArray) w := by
  unfold loadVar
  simp only [Sem.run_bind, isAgg_agg hT hf, Result.andThen_ok, if_true, he.size]
  subst hk
  have := run_loadCells_list (P := P) w ad cs h
  simp [this]

theorem q_loadA {d : TypeDesc} {ad : Addr} {k bb : Nat} {z : Value} (hT : P.underlying t = some d) (hf : flat d = false) (he : TI P t k bb z) (hx : E.ev x = some (.pointer (some ad))) (cs : List Value) (hk : cs.length = k)
    (h : ∀ j v, cs[j]? = some v → w.cell? (ad.add j) = some v) : Runs P E (.load t x) ty w (.agg cs.toArray) := by
  intro ρ dst pos af g hρ
  simp [execOp, hρ _ _ hx, Instr.loadAt, Instr.sureAddr, run_loadAgg hT hf he cs hk h]

/-- a whole element (an array, a struct) of a slice -/
theorem q_loadRA {d : TypeDesc} {v : Value} {n k i bb : Nat} {z : Value} {cs : List Value} (hT : P.underlying t = some d) (hf : flat d = false) (he : TI P t k bb z)
    (hx : E.ev x = some (.pointer (some (v.cellAt (i * k))))) (hr : Rd [] w v n k cs) (hi : i < n) (es : List Value) (hes : (cs.drop (i * k)).take k = es) : Runs P E (.load t x) ty w (.agg es.toArray) := by
  have hle : (i + 1) * k ≤ n * k := Nat.mul_le_mul_right k hi
  rw [Nat.add_mul, Nat.one_mul] at hle
  have hl := hr.len
  subst hes
  refine q_loadA hT hf he hx _ (by simp; omega) fun j u hu => ?_
  rw [List.getElem?_take] at hu
  split at hu
  · rename_i hj
    rw [List.getElem?_drop] at hu
    have h1 := hr.at (j := i * k + j) (by omega)
    rw [hu] at h1
    rw [← h1, cellAt_add]
  · cases hu

theorem cell_at {b o : Nat} {c : Array Value} {T : Nat} {fr : Nat × Nat} (h : w.heap[b]? = some (.cells c T fr)) : w.cell? ⟨b, o, none⟩ = c[o]? := by
  simp [World.cell?, h]

/-- a cell of a block of one's own -/
theorem q_loadB {d : TypeDesc} {b o T : Nat} {fr : Nat × Nat} {c : List Value} {u : Value} (hH : HS M w0 w Hs) (i : Nat) {N : Hl} (hi : nth? Hs i = some N) (hm : (b, Obj.cells c.toArray T fr) ∈ N)
    (hT : P.underlying t = some d) (hf : flat d = true) (hx : E.ev x = some (.pointer (some ⟨b, o, none⟩))) (hu : c[o]? = some u) : Runs P E (.load t x) ty w u :=
  q_load_cell hT hf hx (by rw [cell_at (hH.at0 hi hm)]; simpa using hu)

/-- an array or a struct within a block of one's own -/
theorem q_loadBA {d : TypeDesc} {b o T k bb : Nat} {z : Value} {fr : Nat × Nat} {c : List Value} (hH : HS M w0 w Hs) (i : Nat) {N : Hl} (hi : nth? Hs i = some N) (hm : (b, Obj.cells c.toArray T fr) ∈ N)
    (hT : P.underlying t = some d) (hf : flat d = false) (he : TI P t k bb z) (hx : E.ev x = some (.pointer (some ⟨b, o, none⟩))) (es : List Value) (hes : (c.drop o).take k = es) (hk : es.length = k) : Runs P E (.load t x) ty w (.agg es.toArray) := by
  refine q_loadA hT hf he hx es hk fun j u hu => ?_
  rw [add_off, cell_at (hH.at0 hi hm)]
  rw [← hes, List.getElem?_take] at hu
  split at hu
  · simpa using hu
  · cases hu

/-- the results of a function that lie in memory -/
theorem loadVar_own {d : TypeDesc} {b T k bb : Nat} {z : Value} {fr : Nat × Nat} {c : List Value} (hH : HS M w0 w Hs) (i : Nat) {N : Hl} (hi : nth? Hs i = some N) (hm : (b, Obj.cells c.toArray T fr) ∈ N)
    (hT : P.underlying t = some d) (hf : flat d = false) (he : TI P t k bb z) (hk : c.length = k) : (loadVar t ⟨b, 0, none⟩).run P w = .ok (.agg c.toArray) w := by
  refine run_loadAgg hT hf he c hk fun j u hu => ?_
  rw [add_off, cell_at (hH.at0 hi hm)]
  simpa using hu

/-! ### new memory -/
theorem lo_alloc {k bb : Nat} {z : Value} (hH : HS M w0 w Hs) (he : TI P t k bb z) :
    Lo P E (.alloc t) ty w (fun v w' => ∃ b, v = .pointer (some ⟨b, 0, none⟩) ∧ HS M w0 w' ([(b, .cells z.cells t (0, 0))] :: Hs)) := by
  intro a dst pos af g K Q ha hK
  simp [Oper.wp, execOp, Instr.alloc, he.zero, newVar, newRow, Oper.upon]
  exact hK _ _ ⟨w.heap.size, rfl, hH.alloc _⟩

theorem lo_box {v : Value} (hH : HS M w0 w Hs) (hx : E.ev x = some v) :
    Lo P E (.box t x) ty w (fun v' w' => ∃ b, v' = .pointer (some ⟨b, 0, none⟩) ∧ HS M w0 w' ([(b, .cells v.cells t (0, 0))] :: Hs)) := by
  intro a dst pos af g K Q ha hK
  simp [Oper.wp, execOp, Instr.box, ha _ _ hx, newVar, newRow, Oper.upon]
  exact hK _ _ ⟨w.heap.size, rfl, hH.alloc _⟩

/-- the values of a literal's parts -/
def evs (E : Env) : List (Nat × Operand) → Option (List (Nat × Value))
  | [] => some []
  | p :: r => match E.ev p.2, evs E r with
    | some v, some l => some ((p.1, v) :: l)
    | _, _ => none

theorem evs_map {E : Env} {ρ : Operand → Value} (hρ : ∀ x u, E.ev x = some u → ρ x = u) : ∀ {l : List (Nat × Operand)} {l' : List (Nat × Value)}, evs E l = some l' → l.map (fun p => (p.1, ρ p.2)) = l'
  | [], l', h => by simp [evs] at h; simp [h]
  | p :: r, l', h => by
    unfold evs at h
    split at h
    · rename_i v l hv hl
      cases h
      simp [hρ _ _ hv, evs_map hρ hl]
    · cases h

theorem q_build {parts : List (Nat × Operand)} {vs : List (Nat × Value)} {v : Value} (hp : evs E parts = some vs) (hr : ∀ w, (Instr.build t vs.toArray).run P w = .ok v w) : Runs P E (.build t parts.toArray) ty w v := by
  intro ρ dst pos af g hρ
  have := evs_map hρ hp
  simp [execOp, this, hr]

theorem lo_buildSlice {n : Nat} {parts : List (Nat × Operand)} {vs : List (Nat × Value)} {e k bb : Nat} {z : Value} {cs : List Value} (hH : HS M w0 w Hs) (hp : evs E parts = some vs)
    (hk : cs.length = n * k) (hr : ∀ w, (Instr.buildSlice t n vs.toArray).run P w = .ok (.slice (some ⟨w.heap.size, 0, none⟩) n n) (w.alloc (.cells cs.toArray e))) :
    Lo P E (.buildSlice t n parts.toArray) ty w (fun v w' => ∃ N, Own e k v n cs N ∧ HS M w0 w' (N :: Hs)) := by
  intro a dst pos af g K Q ha hK
  have := evs_map ha hp
  simp [Oper.wp, execOp, this, hr, Oper.upon]
  refine hK _ _ ⟨_, ⟨hk, .inr ⟨w.heap.size, 0, n, [], [], (0, 0), rfl, rfl, rfl, Nat.le_refl _, by simp, soft0 _⟩⟩, ?_⟩
  have := hH.alloc (.cells cs.toArray e)
  simpa using this

/-! ### stores -/
theorem heap_setCell {a : Addr} {u : Value} {b : Nat} (h : a.block ≠ b) : (w.setCell a u).heap[b]? = w.heap[b]? := by
  simp only [World.setCell, Array.getElem?_modify]
  rw [if_neg h]
theorem heap_setCell_at {b o : Nat} {u : Value} {c : List Value} {T : Nat} {fr : Nat × Nat} (h : w.heap[b]? = some (.cells c.toArray T fr)) : (w.setCell ⟨b, o, none⟩ u).heap[b]? = some (.cells (c.set o u).toArray T fr) := by
  simp only [World.setCell, Array.getElem?_modify, if_pos, h, Option.map_some]
  simp

theorem run_store1 {b o : Nat} {u : Value} {c : List Value} {T : Nat} {fr : Nat × Nat} (h : w.heap[b]? = some (.cells c.toArray T fr)) (ho : o < c.length) (hf : soft fr c.length) (h1 : u.oneCell' = true) :
    (store ⟨b, o, none⟩ u).run P w = .ok () (w.setCell ⟨b, o, none⟩ u) := by
  rw [run_store _ _ _ _ _ h1]
  have hc : w.cell? ⟨b, o, none⟩ = some c[o] := by rw [cell_at h]; simp [ho]
  have hfz : w.frozen? ⟨b, o, none⟩ = false := by
    simp only [World.frozen?, h]
    exact hf o ho
  simp [hc, hfz]

/-- l with the places from o on overwritten by vs -/
def putAt (l : List Value) (o : Nat) : List Value → List Value
  | [] => l
  | v :: r => putAt (l.set o v) (o + 1) r

theorem putAt_length : ∀ (vs l : List Value) (o : Nat), (putAt l o vs).length = l.length
  | [], _, _ => rfl
  | v :: r, l, o => by simp [putAt, putAt_length r]

theorem putAt_eq : ∀ (vs l : List Value) (o : Nat), o + vs.length ≤ l.length → putAt l o vs = l.take o ++ vs ++ l.drop (o + vs.length)
  | [], l, o, _ => by simp [putAt]
  | v :: r, l, o, h => by
    simp only [List.length_cons] at h
    rw [putAt, putAt_eq r _ _ (by simp; omega)]
    have e : l.set o v = l.take o ++ (v :: l.drop (o + 1)) := by
      rw [List.set_eq_take_append_cons_drop, if_pos (by omega)]
    have hl : (l.take o).length = o := by simp; omega
    have e1 : (l.set o v).take (o + 1) = l.take o ++ [v] := by
      rw [e, List.take_append, hl, Nat.add_sub_cancel_left]
      simp [List.take_take]
    have e2 : (l.set o v).drop (o + 1 + r.length) = l.drop (o + (v :: r).length) := by
      rw [e, List.drop_append, hl, List.drop_eq_nil_of_le (by omega), show o + 1 + r.length - o = r.length + 1 by omega]
      simp
      congr 1
      omega
    rw [e1, e2]
    simp

theorem run_storeCells_own (b T : Nat) (fr : Nat × Nat) : ∀ (vs : List Value) (c : List Value) (o i : Nat) (w : World), w.heap[b]? = some (.cells c.toArray T fr) → o + i + vs.length ≤ c.length → soft fr c.length → (∀ u ∈ vs, u.oneCell' = true) →
    ∃ w', (storeCells ⟨b, o, none⟩ vs i).run P w = .ok () w' ∧ w'.heap[b]? = some (.cells (putAt c (o + i) vs).toArray T fr) ∧ (∀ b', b' ≠ b → w'.heap[b']? = w.heap[b']?) ∧ w'.heap.size = w.heap.size ∧ w'.os = w.os ∧ w'.tape = w.tape ∧ w'.output = w.output
  | [], c, o, i, w, h, _, _, _ => ⟨w, by simp [storeCells], h, fun _ _ => rfl, rfl, rfl, rfl, rfl⟩
  | v :: r, c, o, i, w, h, hlen, hf, h1 => by
    simp only [List.length_cons] at hlen
    have hs := run_store1 (P := P) (o := o + i) (u := v) h (by omega) hf (h1 v (by simp))
    obtain ⟨w', e1, e2, e3, e4, e5, e6, e7⟩ := run_storeCells_own b T fr r (c.set (o + i) v) o (i + 1) (w.setCell ⟨b, o + i, none⟩ v) (heap_setCell_at h) (by simp; omega) (by simpa using hf) (fun u hu => h1 u (by simp [hu]))
    refine ⟨w', ?_, ?_, fun b' hb' => ?_, by rw [e4]; simp, e5, e6, e7⟩
    · simp only [storeCells, Sem.run_bind, add_off, hs, Result.andThen_ok]; exact e1
    · rw [e2]; rfl
    · rw [e3 b' hb', heap_setCell (by simpa using Ne.symm hb')]

/-- a store into the front heaplet's block -/
theorem lo_store {v : Value} {b o T k bb : Nat} {z : Value} {fr : Nat × Nat} {c : List Value} {rest : List Hl} (hH : HS M w0 w ([(b, Obj.cells c.toArray T fr)] :: rest)) (he : TI P t k bb z)
    (hx : E.ev x = some (.pointer (some ⟨b, o, none⟩))) (hy : E.ev y = some v) (hk : v.cells.size = k) (ho : o + k ≤ c.length) (hf : soft fr c.length) (h1 : ∀ u ∈ v.cells.toList, u.oneCell' = true) :
    Lo P E (.store t x y) ty w (fun _ w' => HS M w0 w' ([(b, Obj.cells (putAt c o v.cells.toList).toArray T fr)] :: rest)) := by
  intro a dst pos af g K Q ha hK
  have hb : w.heap[b]? = some (.cells c.toArray T fr) := hH.has [(b, Obj.cells c.toArray T fr)] List.mem_cons_self (b, _) (List.mem_singleton.2 rfl)
  obtain ⟨w', e1, e2, e3, e4, e5, e6, e7⟩ := run_storeCells_own (P := P) b T fr v.cells.toList c o 0 w hb (by simp; omega) hf h1
  simp [Oper.wp, execOp, ha _ _ hx, ha _ _ hy, Instr.storeAt, Instr.sureAddr, storeVar, he.size, hk, e1, Oper.upon]
  refine hK undef w' (HS.turn hH e5 e6 e7 e4 (fun b' hb' => e3 b' fun e => hb' (b, _) (List.mem_singleton.2 rfl) e.symm) rfl fun p hp => ?_)
  simp at hp
  subst hp
  simpa using e2
end
end Go.Proofs.YtipjpbfledddaaaDoor
