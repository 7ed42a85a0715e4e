/- The texts La, Lb, Lc, Ld, Le, Lf, Lg, Lh, Lz, Lm of this proof's library, one behind the other. -/
import Derived.Orders
import Derived.Tactics
import Derived.Deep.LoopGhost
import Derived.KernelRfl
import Derived.Laws.Sem
import Derived.Laws.Entries
import Derived.Laws.Cells
import Derived.ChangeKeysEq
import Derived.Laws.Append
import Derived.Laws.AppendOwn
import Derived.Lib.AppendStr
import Derived.Lib.ConvBytes
import Derived.Laws.StructEq
import Derived.Laws.MakeOwn
import Derived.MapKept
import Derived.Laws.BytesString
/- Frames as short lists of known slots; the steps of a region, in order and in whatever order. -/
namespace Go.Proofs.YthhdilafnfcpbaaDoor
open Go
set_option linter.unusedVariables false
set_option linter.unusedSimpArgs false

/-- known slots, the newest first -/
abbrev Env := List (Nat × Value)

def Env.look : Env → Nat → Option Value
  | [], _ => none
  | (k, v) :: r, t => bif Nat.beq k t then some v else Env.look r t

def Env.ev (E : Env) : Operand → Option Value
  | .tmp t => E.look t
  | .const v => some v
  | .global g => some (.pointer (some ⟨g, 0, none⟩))
  | .func f => some (.func (.func f) #[] #[])

/-- the frame has n slots, nothing deferred, and holds what E says -/
structure At (n : Nat) (E : Env) (a : Act) : Prop where
  size : a.tmps.size = n
  defers : a.defers = []
  sat : ∀ t v, E.look t = some v → a.tmps[t]? = some v

theorem At.getD {n E a} (h : At n E a) {t v} (ht : E.look t = some v) : a.tmps.getD t undef = v := by
  have := h.sat t v ht
  simp [Array.getD_eq_getD_getElem?, this]

theorem At.ev {n E a} (h : At n E a) {x v} (hx : E.ev x = some v) : a.eval x = v := by
  cases x with
  | tmp t => exact h.getD hx
  | const c => exact Option.some.inj hx
  | global g => exact Option.some.inj hx
  | func f => exact Option.some.inj hx

theorem Env.look_cons (d : Nat) (v : Value) (E : Env) (t : Nat) : Env.look ((d, v) :: E) t = if d = t then some v else E.look t := by
  by_cases h : d = t
  · subst h; simp [Env.look]
  · have hb : Nat.beq d t = false := by cases hh : Nat.beq d t; · rfl
                                        · exact absurd (Nat.eq_of_beq_eq_true hh) h
    simp [Env.look, hb, h]

theorem At.put {n E a d} (h : At n E a) (hd : Nat.blt d n = true) (v : Value) : At n ((d, v) :: E) (a.put (some d) v) := by
  have hd : d < n := Nat.le_of_ble_eq_true hd
  refine ⟨by simp [Act.put, h.size], h.defers, fun t u ht => ?_⟩
  rw [Env.look_cons] at ht
  have hlt : d < a.tmps.size := by rw [h.size]; exact hd
  by_cases he : d = t
  · subst he
    rw [if_pos rfl] at ht
    cases ht
    simp [Act.put, Array.getElem?_setIfInBounds, hlt]
  · rw [if_neg he] at ht
    have := h.sat t u ht
    simp [Act.put, Array.getElem?_setIfInBounds_ne he, this]

theorem At.skip {n E a d} (h : At n E a) (hd : E.look d = none) (v : Value) : At n E (a.put (some d) v) := by
  refine ⟨by simp [Act.put, h.size], h.defers, fun t u ht => ?_⟩
  have he : d ≠ t := fun e => by subst e; rw [hd] at ht; cases ht
  have := h.sat t u ht
  simp [Act.put, Array.getElem?_setIfInBounds_ne he, this]

/-- every slot that the shorter list knows, the longer one knows alike -/
def Env.has (E : Env) : Env → Prop
  | [] => True
  | (k, v) :: r => E.look k = some v ∧ Env.has E r

theorem Env.has_look {E E' : Env} (h : E.has E') {t v} (ht : E'.look t = some v) : E.look t = some v := by
  induction E' with
  | nil => cases ht
  | cons p r ih =>
    obtain ⟨h1, h2⟩ := h
    rw [show (p :: r) = ((p.1, p.2) :: r) from rfl, Env.look_cons] at ht
    by_cases he : p.1 = t
    · rw [if_pos he] at ht; cases ht; subst he; exact h1
    · rw [if_neg he] at ht; exact ih h2 ht

theorem At.sub {n E a} (h : At n E a) {E' : Env} (hs : E.has E') : At n E' a :=
  ⟨h.size, h.defers, fun t v ht => h.sat t v (Env.has_look hs ht)⟩

/-! ### what one operation does -/

section
variable {n : Nat} {E : Env} {a : Act}
theorem At.s1 (h : At n E a) (i0 : Nat) {u0 : Value} (h0 : E.look i0 = some u0 := by rfl) : At n [(i0, u0)] a := h.sub ⟨h0, trivial⟩
theorem At.s2 (h : At n E a) (i0 i1 : Nat) {u0 u1 : Value} (h0 : E.look i0 = some u0 := by rfl) (h1 : E.look i1 = some u1 := by rfl) : At n [(i0, u0), (i1, u1)] a := h.sub ⟨h0, h1, trivial⟩
theorem At.s3 (h : At n E a) (i0 i1 i2 : Nat) {u0 u1 u2 : Value} (h0 : E.look i0 = some u0 := by rfl) (h1 : E.look i1 = some u1 := by rfl) (h2 : E.look i2 = some u2 := by rfl) : At n [(i0, u0), (i1, u1), (i2, u2)] a := h.sub ⟨h0, h1, h2, trivial⟩
theorem At.s4 (h : At n E a) (i0 i1 i2 i3 : Nat) {u0 u1 u2 u3 : Value} (h0 : E.look i0 = some u0 := by rfl) (h1 : E.look i1 = some u1 := by rfl) (h2 : E.look i2 = some u2 := by rfl) (h3 : E.look i3 = some u3 := by rfl) : At n [(i0, u0), (i1, u1), (i2, u2), (i3, u3)] a := h.sub ⟨h0, h1, h2, h3, trivial⟩
theorem At.s5 (h : At n E a) (i0 i1 i2 i3 i4 : Nat) {u0 u1 u2 u3 u4 : Value} (h0 : E.look i0 = some u0 := by rfl) (h1 : E.look i1 = some u1 := by rfl) (h2 : E.look i2 = some u2 := by rfl) (h3 : E.look i3 = some u3 := by rfl) (h4 : E.look i4 = some u4 := by rfl) : At n [(i0, u0), (i1, u1), (i2, u2), (i3, u3), (i4, u4)] a := h.sub ⟨h0, h1, h2, h3, h4, trivial⟩
theorem At.s6 (h : At n E a) (i0 i1 i2 i3 i4 i5 : Nat) {u0 u1 u2 u3 u4 u5 : Value} (h0 : E.look i0 = some u0 := by rfl) (h1 : E.look i1 = some u1 := by rfl) (h2 : E.look i2 = some u2 := by rfl) (h3 : E.look i3 = some u3 := by rfl) (h4 : E.look i4 = some u4 := by rfl) (h5 : E.look i5 = some u5 := by rfl) : At n [(i0, u0), (i1, u1), (i2, u2), (i3, u3), (i4, u4), (i5, u5)] a := h.sub ⟨h0, h1, h2, h3, h4, h5, trivial⟩
theorem At.s7 (h : At n E a) (i0 i1 i2 i3 i4 i5 i6 : Nat) {u0 u1 u2 u3 u4 u5 u6 : Value} (h0 : E.look i0 = some u0 := by rfl) (h1 : E.look i1 = some u1 := by rfl) (h2 : E.look i2 = some u2 := by rfl) (h3 : E.look i3 = some u3 := by rfl) (h4 : E.look i4 = some u4 := by rfl) (h5 : E.look i5 = some u5 := by rfl) (h6 : E.look i6 = some u6 := by rfl) : At n [(i0, u0), (i1, u1), (i2, u2), (i3, u3), (i4, u4), (i5, u5), (i6, u6)] a := h.sub ⟨h0, h1, h2, h3, h4, h5, h6, trivial⟩
theorem At.s8 (h : At n E a) (i0 i1 i2 i3 i4 i5 i6 i7 : Nat) {u0 u1 u2 u3 u4 u5 u6 u7 : Value} (h0 : E.look i0 = some u0 := by rfl) (h1 : E.look i1 = some u1 := by rfl) (h2 : E.look i2 = some u2 := by rfl) (h3 : E.look i3 = some u3 := by rfl) (h4 : E.look i4 = some u4 := by rfl) (h5 : E.look i5 = some u5 := by rfl) (h6 : E.look i6 = some u6 := by rfl) (h7 : E.look i7 = some u7 := by rfl) : At n [(i0, u0), (i1, u1), (i2, u2), (i3, u3), (i4, u4), (i5, u5), (i6, u6), (i7, u7)] a := h.sub ⟨h0, h1, h2, h3, h4, h5, h6, h7, trivial⟩
theorem At.s11 (h : At n E a) (i0 i1 i2 i3 i4 i5 i6 i7 i8 i9 i10 : Nat) {u0 u1 u2 u3 u4 u5 u6 u7 u8 u9 u10 : Value} (h0 : E.look i0 = some u0 := by rfl) (h1 : E.look i1 = some u1 := by rfl) (h2 : E.look i2 = some u2 := by rfl) (h3 : E.look i3 = some u3 := by rfl) (h4 : E.look i4 = some u4 := by rfl) (h5 : E.look i5 = some u5 := by rfl) (h6 : E.look i6 = some u6 := by rfl) (h7 : E.look i7 = some u7 := by rfl) (h8 : E.look i8 = some u8 := by rfl) (h9 : E.look i9 = some u9 := by rfl) (h10 : E.look i10 = some u10 := by rfl) : At n [(i0, u0), (i1, u1), (i2, u2), (i3, u3), (i4, u4), (i5, u5), (i6, u6), (i7, u7), (i8, u8), (i9, u9), (i10, u10)] a := h.sub ⟨h0, h1, h2, h3, h4, h5, h6, h7, h8, h9, h10, trivial⟩
theorem At.s12 (h : At n E a) (i0 i1 i2 i3 i4 i5 i6 i7 i8 i9 i10 i11 : Nat) {u0 u1 u2 u3 u4 u5 u6 u7 u8 u9 u10 u11 : Value} (h0 : E.look i0 = some u0 := by rfl) (h1 : E.look i1 = some u1 := by rfl) (h2 : E.look i2 = some u2 := by rfl) (h3 : E.look i3 = some u3 := by rfl) (h4 : E.look i4 = some u4 := by rfl) (h5 : E.look i5 = some u5 := by rfl) (h6 : E.look i6 = some u6 := by rfl) (h7 : E.look i7 = some u7 := by rfl) (h8 : E.look i8 = some u8 := by rfl) (h9 : E.look i9 = some u9 := by rfl) (h10 : E.look i10 = some u10 := by rfl) (h11 : E.look i11 = some u11 := by rfl) : At n [(i0, u0), (i1, u1), (i2, u2), (i3, u3), (i4, u4), (i5, u5), (i6, u6), (i7, u7), (i8, u8), (i9, u9), (i10, u10), (i11, u11)] a := h.sub ⟨h0, h1, h2, h3, h4, h5, h6, h7, h8, h9, h10, h11, trivial⟩
end
/-- the operation, wherever E holds, yields v and leaves the world w -/
def Runs (P : Program) (E : Env) (op : Op) (ty : TypeId) (w : World) (v : Value) : Prop :=
  ∀ (ρ : Operand → Value) (dst : Option Tmp) (pos : String) (af : Array Edge) (g : Option (Nat × Bool)),
    (∀ x u, E.ev x = some u → ρ x = u) → (execOp ρ ⟨dst, op, ty, pos, af, g⟩).run P w = .ok (.value v) w

/-- the operation comes to a value and a world that are Post -/
def Lo (P : Program) (E : Env) (op : Op) (ty : TypeId) (w : World) (Post : Value → World → Prop) : Prop :=
  ∀ (a : Act) (dst : Option Tmp) (pos : String) (af : Array Edge) (g : Option (Nat × Bool)) (K : Act → World → Prop) (Q : Exit → Act → World → Prop),
    (∀ x u, E.ev x = some u → a.eval x = u) → (∀ v w', Post v w' → K (a.put dst v) w') → Oper.wp P ⟨dst, op, ty, pos, af, g⟩ a w K Q

theorem Runs.lo {P E op ty w v} (h : Runs P E op ty w v) : Lo P E op ty w (fun v' w' => v' = v ∧ w' = w) := by
  intro a dst pos af g K Q ha hK
  unfold Oper.wp
  rw [h a.eval dst pos af g ha]
  exact hK v w ⟨rfl, rfl⟩

theorem Runs.bt {P E op ty w} {p : Prop} [Decidable p] (h : Runs P E op ty w (.bool (decide p))) (hp : p) : Runs P E op ty w (.bool true) := by
  rw [decide_eq_true hp] at h; exact h
theorem Runs.bf {P E op ty w} {p : Prop} [Decidable p] (h : Runs P E op ty w (.bool (decide p))) (hp : ¬ p) : Runs P E op ty w (.bool false) := by
  rw [decide_eq_false hp] at h; exact h

theorem Lo.mono {P E op ty w Post Post'} (h : Lo P E op ty w Post) (hp : ∀ v w', Post v w' → Post' v w') : Lo P E op ty w Post' :=
  fun a dst pos af g K Q ha hK => h a dst pos af g K Q ha fun v w' hv => hK v w' (hp v w' hv)

/-! ### regions in the order of the text -/
section
variable {P : Program} {ops : Array Oper} {Q : Exit → Act → World → Prop} {rest : List Oper} {n : Nat} {E : Env} {a : Act} {w : World}
  {d : Nat} {op : Op} {ty : TypeId} {pos : String} {af : Array Edge}

theorem sq (hA : At n E a) {v : Value} (h : Runs P E op ty w v) (hd : Nat.blt d n = true)
    (k : ∀ a', At n ((d, v) :: E) a' → wpList P ops Q rest a' w) : wpList P ops Q (⟨some d, op, ty, pos, af, none⟩ :: rest) a w := by
  refine wpList_plain rfl fun K hK => ?_
  unfold Oper.wp
  rw [h a.eval (some d) pos af none fun x u hx => hA.ev hx]
  exact hK _ _ (k _ (hA.put hd v))

theorem sl (hA : At n E a) {Post : Value → World → Prop} (h : Lo P E op ty w Post) (hd : Nat.blt d n = true)
    (k : ∀ v w', Post v w' → ∀ a', At n ((d, v) :: E) a' → wpList P ops Q rest a' w') : wpList P ops Q (⟨some d, op, ty, pos, af, none⟩ :: rest) a w :=
  wpList_plain rfl fun K hK => h a (some d) pos af none K Q (fun x u hx => hA.ev hx) fun v w' hv => hK _ _ (k v w' hv _ (hA.put hd v))

/-- a store, or a call whose result goes nowhere -/
theorem s0 (hA : At n E a) {Post : Value → World → Prop} (h : Lo P E op ty w Post)
    (k : ∀ v w', Post v w' → wpList P ops Q rest a w') : wpList P ops Q (⟨none, op, ty, pos, af, none⟩ :: rest) a w :=
  wpList_plain rfl fun K hK => h a none pos af none K Q (fun x u hx => hA.ev hx) fun v w' hv => hK _ _ (k v w' hv)

theorem mv (hA : At n E a) {x : Operand} {v : Value} (k : ∀ a', At n ((d, v) :: E) a' → wpList P ops Q rest a' w) (hx : E.ev x = some v := by rfl) (hd : Nat.blt d n = true := by rfl) : wpList P ops Q (⟨some d, .move x, ty, pos, af, none⟩ :: rest) a w :=
  sq hA (fun ρ dst pos af g hρ => by simp [execOp, hρ _ _ hx]) hd k
theorem asg (hA : At n E a) {x : Operand} {v : Value} (k : ∀ a', At n ((d, v) :: E) a' → wpList P ops Q rest a' w) (hx : E.ev x = some v := by rfl) (hd : Nat.blt d n = true := by rfl) : wpList P ops Q (⟨some d, .assign x, ty, pos, af, none⟩ :: rest) a w :=
  sq hA (fun ρ dst pos af g hρ => by simp [execOp, hρ _ _ hx]) hd k
theorem wanted_of {o : Oper} {g t : Nat} {b b' : Bool} (hg : o.guard = some (g, b)) (hA : At n E a) (hops : (ops[g]?).bind (·.dst) = some t)
    (ht : E.look t = some (.bool b')) : Region.wanted o (yielded ops a.tmps) = (b' == b) := by
  simp [Region.wanted, hg, yielded, hops, hA.sat t _ ht]

/-- guarded, and wanted -/
theorem gq (hA : At n E a) {g t : Nat} {b : Bool} {v : Value} (hops : (ops[g]?).bind (·.dst) = some t) (ht : E.look t = some (.bool b))
    (h : Runs P E op ty w v) (hd : Nat.blt d n = true)
    (k : ∀ a', At n ((d, v) :: E) a' → wpList P ops Q rest a' w) : wpList P ops Q (⟨some d, op, ty, pos, af, some (g, b)⟩ :: rest) a w := by
  refine wpList_step fun K hK => ?_
  rw [if_pos (by rw [wanted_of rfl hA hops ht]; simp)]
  unfold Oper.wp
  rw [h a.eval (some d) pos af (some (g, b)) fun x u hx => hA.ev hx]
  exact hK _ _ (k _ (hA.put hd v))

theorem gl (hA : At n E a) {g t : Nat} {b : Bool} {Post : Value → World → Prop} (hops : (ops[g]?).bind (·.dst) = some t) (ht : E.look t = some (.bool b))
    (h : Lo P E op ty w Post) (hd : Nat.blt d n = true)
    (k : ∀ v w', Post v w' → ∀ a', At n ((d, v) :: E) a' → wpList P ops Q rest a' w') : wpList P ops Q (⟨some d, op, ty, pos, af, some (g, b)⟩ :: rest) a w := by
  refine wpList_step fun K hK => ?_
  rw [if_pos (by rw [wanted_of rfl hA hops ht]; simp)]
  exact h a (some d) pos af _ K Q (fun x u hx => hA.ev hx) fun v w' hv => hK _ _ (k v w' hv _ (hA.put hd v))

/-- guarded, and not wanted -/
theorem gs (hA : At n E a) {g t : Nat} {b b' : Bool} (hops : (ops[g]?).bind (·.dst) = some t) (ht : E.look t = some (.bool b')) (hne : (b' == b) = false)
    (hd : E.look d = none)
    (k : ∀ a', At n E a' → wpList P ops Q rest a' w) : wpList P ops Q (⟨some d, op, ty, pos, af, some (g, b)⟩ :: rest) a w := by
  refine wpList_step fun K hK => ?_
  rw [if_neg (by rw [wanted_of rfl hA hops ht, hne]; simp)]
  exact hK _ _ (k _ (hA.skip hd _))

end

/-! ### regions whose order is open: an operation that only looks may be taken first -/
section
variable {P : Program} {ops : Array Oper} {Q : Exit → Act → World → Prop} {md : Region.Mode} {S : World → Prop} {keep : Nat → Bool}

/-- whatever order is picked from here on; S holds behind each operation that 'keep' names -/
def wpK (P : Program) (md : Region.Mode) (ops : Array Oper) (Q : Exit → Act → World → Prop) (S : World → Prop) (keep : Nat → Bool) : Nat → Array Bool → Act → World → Prop
  | 0, listed, a, w => Region.ready md ops listed = [] ∧ Q .normal a w
  | fuel + 1, listed, a, w =>
    (Region.ready md ops listed = [] → Q .normal a w) ∧
    ∀ i ∈ Region.ready md ops listed, wpOp P ops Q i (fun a' w' => (S w → keep i = true → S w') ∧ wpK P md ops Q S keep fuel (listed.setIfInBounds i true) a' w') a w

theorem wpK_any : ∀ (fuel : Nat) (listed : Array Bool) (a : Act) (w : World), wpK P md ops Q S keep fuel listed a w → wpAny P md ops Q fuel listed a w
  | 0, _, _, _, h => h
  | fuel + 1, _, _, _, h => ⟨h.1, fun i hi => wpOp_mono (fun a' w' h' => wpK_any fuel _ a' w' h'.2) (h.2 i hi)⟩

/-- o yields v in every world that meets S -/
def YieldsS (P : Program) (ops : Array Oper) (S : World → Prop) (o : Oper) (v : Value) (a : Act) : Prop :=
  (Region.wanted o (yielded ops a.tmps) = true ∧ ∀ w, S w → (execOp a.eval o).run P w = .ok (.value v) w) ∨
  (Region.wanted o (yielded ops a.tmps) = false ∧ v = undef)

theorem YieldsS.wpOp {i : Nat} {o : Oper} {v : Value} {a : Act} (hi : ops[i]? = some o) (hy : YieldsS P ops S o v a)
    {K : Act → World → Prop} {w : World} (hS : S w) (h : K (a.put o.dst v) w) : wpOp P ops Q i K a w := by
  unfold Go.wpOp
  simp only [hi]
  rcases hy with ⟨hw, hv⟩ | ⟨hw, rfl⟩
  · simp only [hw, if_true, Oper.wp, hv w hS, Oper.upon]; exact .inl h
  · simp only [hw, Bool.false_eq_true, if_false]; exact h

theorem YieldsS.of_same {o : Oper} {v : Value} {a a' : Act} (hy : YieldsS P ops S o v a) (he : execOp a'.eval o = execOp a.eval o)
    (hw : Region.wanted o (yielded ops a'.tmps) = Region.wanted o (yielded ops a.tmps)) : YieldsS P ops S o v a' := by
  unfold YieldsS at *
  rw [he, hw]
  exact hy

theorem wpOp_putS {j : Nat} {oi oj : Oper} {v : Value} (hj : ops[j]? = some oj) (hap : oi.apart ops oj = true)
    (hsi : ∀ cs b, oi.op ≠ .select cs b) (hsj : ∀ cs b, oj.op ≠ .select cs b)
    (hQ : ∀ c a w, Q (.panic c) (a.put oi.dst v) w → Q (.panic c) a w) {K : Act → World → Prop} {a : Act} {w : World}
    (hy : YieldsS P ops S oi v a) (h : wpOp P ops Q j K (a.put oi.dst v) w) :
    wpOp P ops Q j (fun a' w' => YieldsS P ops S oi v a' ∧ K (a'.put oi.dst v) w') a w := by
  obtain ⟨h1, h2, h3⟩ := Oper.apart_spec hap
  have keep : ∀ (a : Act), YieldsS P ops S oi v a → ∀ u, YieldsS P ops S oi v (a.put oj.dst u) := fun a hy u =>
    hy.of_same (execOp_put oi hsi a oj.dst u h3) (wanted_put oi a oj.dst u h3)
  have keepD : ∀ d, YieldsS P ops S oi v { a with defers := d :: a.defers } := fun d => hy.of_same rfl rfl
  unfold wpOp at *
  simp only [hj] at *
  rw [wanted_put oj a oi.dst v h1] at h
  split
  · rename_i hw
    simp only [hw, if_true] at h
    rcases h with h | ⟨hasks, hlets⟩
    case inr => exact .inr ⟨by unfold Oper.asks at *; rw [execOp_put oj hsj a oi.dst v h1] at hasks; exact hasks, hlets⟩
    refine .inl ?_
    unfold Oper.wp at *
    rw [execOp_put oj hsj a oi.dst v h1] at h
    generalize (execOp a.eval oj).run P w = r at *
    cases r with
    | ok n w' =>
      cases n <;> simp only [Oper.upon] at h ⊢
      case value u => exact ⟨keep a hy u, by rw [← Act.put_comm a v u h2]; exact h⟩
      case skip => exact ⟨keep a hy _, by rw [← Act.put_comm a v undef h2]; exact h⟩
      case defer d =>
        refine ⟨keep _ (keepD d) _, ?_⟩
        rw [← Act.put_comm _ v undef h2, ← Act.put_defers]
        exact h
      case enter f args =>
        refine Calls.mono h fun e w'' he => ?_
        cases e with
        | returned u => exact ⟨keep a hy u, by rw [← Act.put_comm a v u h2]; exact he⟩
        | panicked c => exact hQ _ _ _ he
        | outgrown => exact he
      case row row args => exact Rows.mono h fun u w'' he => ⟨keep a hy u, by rw [← Act.put_comm a v u h2]; exact he⟩
    | halt x w' =>
      cases x <;> simp only [Oper.upon] at h ⊢
      case panic u => exact hQ _ _ _ h
  · rename_i hw
    simp only [hw] at h
    exact ⟨keep a hy _, by rw [← Act.put_comm a v undef h2]; exact h⟩

/-- an operation that may come up now may be taken first -/
theorem wpK_first {Sy : World → Prop} {ok : Nat → Bool} {i : Nat} {oi : Oper} {v : Value} (imp : ∀ j w w', ok j = true → (S w → keep j = true → S w') → Sy w → Sy w') (hi : ops[i]? = some oi) (hsel : ∀ (j : Nat) (o : Oper) cs b, ops[j]? = some o → o.op ≠ .select cs b)
    (hQ : ∀ c a w, Q (.panic c) (a.put oi.dst v) w → Q (.panic c) a w) :
    ∀ (fuel : Nat) (listed : Array Bool) (a : Act) (w : World),
      (∀ j oj, ops[j]? = some oj → j ≠ i → listed.getD j true = false → (∀ e ∈ oj.after, Region.binds md e = true → e.on ≠ i) → oi.apart ops oj = true ∧ ok j = true) →
      i ∈ Region.ready md ops listed → YieldsS P ops Sy oi v a → Sy w →
      wpK P md ops Q S keep fuel (listed.setIfInBounds i true) (a.put oi.dst v) w → wpK P md ops Q S keep (fuel + 1) listed a w := by
  intro fuel
  induction fuel with
  | zero =>
    intro listed a w _ hr hy hS H
    refine ⟨fun h => (by rw [h] at hr; cases hr), fun j hj => ?_⟩
    by_cases hji : j = i
    · subst hji; exact hy.wpOp hi hS ⟨fun h _ => h, H⟩
    · have := ready_mono hj hji
      rw [H.1] at this
      cases this
  | succ fuel ih =>
    intro listed a w hfree hr hy hS H
    refine ⟨fun h => (by rw [h] at hr; cases hr), fun j hj => ?_⟩
    by_cases hji : j = i
    · subst hji; exact hy.wpOp hi hS ⟨fun h _ => h, H⟩
    · have h1 := H.2 j (ready_mono hj hji)
      obtain ⟨hjun, oj, hoj, hall⟩ := mem_ready.1 hj
      have hnot : ∀ e ∈ oj.after, Region.binds md e = true → e.on ≠ i := fun e he hb heq => by
        have h1 := hall e he hb
        have h0 := (mem_ready.1 hr).1
        rw [heq] at h1
        rcases Nat.lt_or_ge i listed.size with h' | h'
        · simp [h'] at h0 h1; rw [h0] at h1; cases h1
        · simp [Array.getElem?_eq_none h'] at h1
      obtain ⟨hap, hkeep⟩ := hfree j oj hoj hji hjun hnot
      have h2 := wpOp_putS hoj hap (fun cs b => hsel i oi cs b hi) (fun cs b => hsel j oj cs b hoj) hQ hy h1
      have hfree' : ∀ k ok', ops[k]? = some ok' → k ≠ i → (listed.setIfInBounds j true).getD k true = false →
          (∀ e ∈ ok'.after, Region.binds md e = true → e.on ≠ i) → oi.apart ops ok' = true ∧ ok k = true := fun k ok' hk hki hun hno => by
        refine hfree k ok' hk hki ?_ hno
        by_cases hjk : j = k
        · subst hjk; exact hjun
        · rw [getD_set_ne true hjk] at hun; exact hun
      refine wpOp_mono (fun a' w' h3 => ⟨h3.2.1, ih (listed.setIfInBounds j true) a' w' hfree' (ready_mono hr (Ne.symm hji)) h3.1 (imp j w w' hkeep h3.2.1 hS) ?_⟩) h2
      rw [Array.setIfInBounds_comm _ _ hji]
      exact h3.2.2

/-- who could come ahead of number i touches none of its slots, and (where i looks at memory) is among those that keep S -/
def freeK (md : Region.Mode) (ops : Array Oper) (keep : Nat → Bool) (listed : Array Bool) (i : Nat) : Bool :=
  match ops[i]? with
  | none => false
  | some oi => (List.range ops.size).all fun j => j == i || listed.getD j true || match ops[j]? with
      | some oj => oj.after.any (fun e => Region.binds md e && e.on == i) || (oi.apart ops oj && keep j)
      | none => true

theorem freeK_spec {i : Nat} {oi : Oper} {listed : Array Bool} (hi : ops[i]? = some oi) (h : freeK md ops keep listed i = true) (j : Nat) (oj : Oper)
    (hj : ops[j]? = some oj) (hne : j ≠ i) (hun : listed.getD j true = false) (hno : ∀ e ∈ oj.after, Region.binds md e = true → e.on ≠ i) :
    oi.apart ops oj = true ∧ keep j = true := by
  simp only [freeK, hi, List.all_eq_true, List.mem_range] at h
  have h1 := h j (Array.getElem?_eq_some_iff.1 hj).1
  simp only [hj, Bool.or_eq_true, beq_iff_eq, hne, false_or, hun, Bool.false_eq_true] at h1
  rcases h1 with h1 | h1
  · obtain ⟨e, he, hb⟩ := Array.any_eq_true'.1 h1
    simp only [Bool.and_eq_true, beq_iff_eq] at hb
    exact absurd hb.2 (hno e he hb.1)
  · simpa using h1

/-- one look that answers all that a step by number i asks -/
def okTake (ops : Array Oper) (keep : Nat → Bool) (listed : Array Bool) (i : Nat) : Bool :=
  Region.noSelect ops && freeK .any ops keep listed i && (Region.ready .any ops listed).contains i
end

section
variable {P : Program} {ops : Array Oper} {Q : Exit → Act → World → Prop} {S : World → Prop} {keep : Nat → Bool}
  {n : Nat} {E : Env} {a : Act} {w : World} {fuel : Nat} {listed listed' : Array Bool}
  {d : Nat} {op : Op} {ty : TypeId} {pos : String} {af : Array Edge}

theorem any_begin {id : Nat} (S : World → Prop) (keep : Nat → Bool) (hm : P.follows .mixedOrders = true)
    (h : wpK P .any ops Q S keep ops.size (Array.replicate ops.size false) a { w with drawn := w.drawn + 1 }) : (Code.region id ops true).wp P Q a w :=
  wp_region_any hm (wpK_any _ _ _ _ h)

/-- an operation that looks at memory (S says what it sees) -/
theorem aq (hA : At n E a) (i : Nat) {v : Value} (ho : ops[i]? = some ⟨some d, op, ty, pos, af, none⟩) (hok : okTake ops keep listed i = true)
    (hQ : ∀ c a d v w, Q (.panic c) (a.put d v) w → Q (.panic c) a w) (hS : S w)
    (h : ∀ w, S w → Runs P E op ty w v) (hd : Nat.blt d n = true) (hl : listed.setIfInBounds i true = listed')
    (k : ∀ a', At n ((d, v) :: E) a' → wpK P .any ops Q S keep fuel listed' a' w) : wpK P .any ops Q S keep (fuel + 1) listed a w := by
  simp only [okTake, Bool.and_eq_true] at hok
  refine wpK_first (ok := keep) (Sy := S) (fun j w w' h1 h2 h3 => h2 h3 h1) ho (Region.noSelect_spec hok.1.1) (fun c a w => hQ c a _ _ w) fuel listed a w (freeK_spec ho hok.1.2) (by simpa using hok.2)
    (.inl ⟨by simp [Region.wanted], fun w' hw' => h w' hw' a.eval (some d) pos af none fun x u hx => hA.ev hx⟩) hS ?_
  rw [hl]
  exact k _ (hA.put hd v)

/-- guarded, and wanted -/
theorem agq (hA : At n E a) (i : Nat) {g t : Nat} {b : Bool} {v : Value} (ho : ops[i]? = some ⟨some d, op, ty, pos, af, some (g, b)⟩) (hok : okTake ops keep listed i = true)
    (hops : (ops[g]?).bind (·.dst) = some t) (ht : E.look t = some (.bool b))
    (hQ : ∀ c a d v w, Q (.panic c) (a.put d v) w → Q (.panic c) a w) (hS : S w)
    (h : ∀ w, S w → Runs P E op ty w v) (hd : Nat.blt d n = true) (hl : listed.setIfInBounds i true = listed')
    (k : ∀ a', At n ((d, v) :: E) a' → wpK P .any ops Q S keep fuel listed' a' w) : wpK P .any ops Q S keep (fuel + 1) listed a w := by
  simp only [okTake, Bool.and_eq_true] at hok
  refine wpK_first (ok := keep) (Sy := S) (fun j w w' h1 h2 h3 => h2 h3 h1) ho (Region.noSelect_spec hok.1.1) (fun c a w => hQ c a _ _ w) fuel listed a w (freeK_spec ho hok.1.2) (by simpa using hok.2)
    (.inl ⟨by rw [wanted_of rfl hA hops ht]; simp, fun w' hw' => h w' hw' a.eval (some d) pos af _ fun x u hx => hA.ev hx⟩) hS ?_
  rw [hl]
  exact k _ (hA.put hd v)

/-- an operation that does not look at memory -/
theorem apq (hA : At n E a) (i : Nat) {v : Value} (ho : ops[i]? = some ⟨some d, op, ty, pos, af, none⟩) (hok : okTake ops (fun _ => true) listed i = true)
    (hQ : ∀ c a d v w, Q (.panic c) (a.put d v) w → Q (.panic c) a w)
    (h : ∀ w, Runs P E op ty w v) (hd : Nat.blt d n = true) (hl : listed.setIfInBounds i true = listed')
    (k : ∀ a', At n ((d, v) :: E) a' → wpK P .any ops Q S keep fuel listed' a' w) : wpK P .any ops Q S keep (fuel + 1) listed a w := by
  simp only [okTake, Bool.and_eq_true] at hok
  refine wpK_first (ok := fun _ => true) (Sy := fun _ => True) (fun _ _ _ _ _ _ => trivial) ho (Region.noSelect_spec hok.1.1) (fun c a w => hQ c a _ _ w) fuel listed a w (freeK_spec ho hok.1.2) (by simpa using hok.2)
    (.inl ⟨by simp [Region.wanted], fun w' hw' => h w' a.eval (some d) pos af none fun x u hx => hA.ev hx⟩) trivial ?_
  rw [hl]
  exact k _ (hA.put hd v)

/-- guarded, and wanted -/
theorem apgq (hA : At n E a) (i : Nat) {g t : Nat} {b : Bool} {v : Value} (ho : ops[i]? = some ⟨some d, op, ty, pos, af, some (g, b)⟩) (hok : okTake ops (fun _ => true) listed i = true)
    (hops : (ops[g]?).bind (·.dst) = some t) (ht : E.look t = some (.bool b))
    (hQ : ∀ c a d v w, Q (.panic c) (a.put d v) w → Q (.panic c) a w)
    (h : ∀ w, Runs P E op ty w v) (hd : Nat.blt d n = true) (hl : listed.setIfInBounds i true = listed')
    (k : ∀ a', At n ((d, v) :: E) a' → wpK P .any ops Q S keep fuel listed' a' w) : wpK P .any ops Q S keep (fuel + 1) listed a w := by
  simp only [okTake, Bool.and_eq_true] at hok
  refine wpK_first (ok := fun _ => true) (Sy := fun _ => True) (fun _ _ _ _ _ _ => trivial) ho (Region.noSelect_spec hok.1.1) (fun c a w => hQ c a _ _ w) fuel listed a w (freeK_spec ho hok.1.2) (by simpa using hok.2)
    (.inl ⟨by rw [wanted_of rfl hA hops ht]; simp, fun w' hw' => h w' a.eval (some d) pos af _ fun x u hx => hA.ev hx⟩) trivial ?_
  rw [hl]
  exact k _ (hA.put hd v)

/-- guarded, and not wanted -/
theorem apgs (hA : At n E a) (i : Nat) {g t : Nat} {b b' : Bool} (ho : ops[i]? = some ⟨some d, op, ty, pos, af, some (g, b)⟩) (hok : okTake ops (fun _ => true) listed i = true)
    (hops : (ops[g]?).bind (·.dst) = some t) (ht : E.look t = some (.bool b')) (hne : (b' == b) = false)
    (hQ : ∀ c a d v w, Q (.panic c) (a.put d v) w → Q (.panic c) a w)
    (hd : E.look d = none) (hl : listed.setIfInBounds i true = listed')
    (k : ∀ a', At n E a' → wpK P .any ops Q S keep fuel listed' a' w) : wpK P .any ops Q S keep (fuel + 1) listed a w := by
  simp only [okTake, Bool.and_eq_true] at hok
  refine wpK_first (ok := fun _ => true) (Sy := fun _ => True) (fun _ _ _ _ _ _ => trivial) ho (Region.noSelect_spec hok.1.1) (fun c a w => hQ c a _ _ w) fuel listed a w (freeK_spec ho hok.1.2) (by simpa using hok.2)
    (.inr ⟨by rw [wanted_of rfl hA hops ht, hne], rfl⟩) trivial ?_
  rw [hl]
  exact k _ (hA.skip hd _)

/-- the one operation that may come up: a call, an allocation, a store -/
theorem al (hA : At n E a) (i : Nat) {Post : Value → World → Prop} (ho : ops[i]? = some ⟨some d, op, ty, pos, af, none⟩) (hr : Region.ready .any ops listed = [i])
    (h : Lo P E op ty w Post) (hd : Nat.blt d n = true) (hl : listed.setIfInBounds i true = listed')
    (k : ∀ v w', Post v w' → (S w → keep i = true → S w') ∧ ∀ a', At n ((d, v) :: E) a' → wpK P .any ops Q S keep fuel listed' a' w') :
    wpK P .any ops Q S keep (fuel + 1) listed a w := by
  refine ⟨fun h0 => (by rw [h0] at hr; cases hr), fun j hj => ?_⟩
  rw [hr] at hj
  obtain rfl : j = i := by simpa using hj
  unfold wpOp
  simp only [ho]
  rw [if_pos (by simp [Region.wanted])]
  refine .inl (h a (some d) pos af none _ Q (fun x u hx => hA.ev hx) fun v w' hv => ?_)
  obtain ⟨k1, k2⟩ := k v w' hv
  rw [hl]
  exact ⟨k1, k2 _ (hA.put hd v)⟩

theorem al0 (hA : At n E a) (i : Nat) {Post : Value → World → Prop} (ho : ops[i]? = some ⟨none, op, ty, pos, af, none⟩) (hr : Region.ready .any ops listed = [i])
    (h : Lo P E op ty w Post) (hl : listed.setIfInBounds i true = listed')
    (k : ∀ v w', Post v w' → (S w → keep i = true → S w') ∧ wpK P .any ops Q S keep fuel listed' a w') :
    wpK P .any ops Q S keep (fuel + 1) listed a w := by
  refine ⟨fun h0 => (by rw [h0] at hr; cases hr), fun j hj => ?_⟩
  rw [hr] at hj
  obtain rfl : j = i := by simpa using hj
  unfold wpOp
  simp only [ho]
  rw [if_pos (by simp [Region.wanted])]
  refine .inl (h a none pos af none _ Q (fun x u hx => hA.ev hx) fun v w' hv => ?_)
  obtain ⟨k1, k2⟩ := k v w' hv
  rw [hl]
  exact ⟨k1, k2⟩

theorem agl (hA : At n E a) (i : Nat) {g t : Nat} {b : Bool} {Post : Value → World → Prop} (ho : ops[i]? = some ⟨some d, op, ty, pos, af, some (g, b)⟩) (hr : Region.ready .any ops listed = [i])
    (hops : (ops[g]?).bind (·.dst) = some t) (ht : E.look t = some (.bool b))
    (h : Lo P E op ty w Post) (hd : Nat.blt d n = true) (hl : listed.setIfInBounds i true = listed')
    (k : ∀ v w', Post v w' → (S w → keep i = true → S w') ∧ ∀ a', At n ((d, v) :: E) a' → wpK P .any ops Q S keep fuel listed' a' w') :
    wpK P .any ops Q S keep (fuel + 1) listed a w := by
  refine ⟨fun h0 => (by rw [h0] at hr; cases hr), fun j hj => ?_⟩
  rw [hr] at hj
  obtain rfl : j = i := by simpa using hj
  unfold wpOp
  simp only [ho]
  rw [if_pos (by rw [wanted_of rfl hA hops ht]; simp)]
  refine .inl (h a (some d) pos af _ _ Q (fun x u hx => hA.ev hx) fun v w' hv => ?_)
  obtain ⟨k1, k2⟩ := k v w' hv
  rw [hl]
  exact ⟨k1, k2 _ (hA.put hd v)⟩

/-! ### short forms: what is listed, as a number -/
def lstL : Nat → Nat → List Bool
  | 0, _ => []
  | n + 1, m => (m % 2 == 1) :: lstL n (m / 2)
def lst (n m : Nat) : Array Bool := (lstL n m).toArray
theorem any_l (k : Nat) (h : wpK P .any ops Q S keep k (lst k 0) a w) (h1 : ops.size = k := by kernel_rfl) (h2 : Array.replicate ops.size false = lst k 0 := by kernel_rfl) : wpK P .any ops Q S keep ops.size (Array.replicate ops.size false) a w := by
  rw [h2, h1]; exact h
theorem r0 (hA : At n E a) (i m' : Nat) {N m : Nat} {v : Value} (ho : ops[i]? = some ⟨some d, op, ty, pos, af, none⟩) (hS : S w) (h : ∀ w, S w → Runs P E op ty w v)
    (k : ∀ a', At n ((d, v) :: E) a' → wpK P .any ops Q S keep fuel (lst N m') a' w) (hok : okTake ops keep (lst N m) i = true := by kernel_rfl) (hQ : ∀ c a d v w, Q (.panic c) (a.put d v) w → Q (.panic c) a w := by intro c a d v w h; cases d <;> exact h)
    (hd : Nat.blt d n = true := by rfl) (hl : (lst N m).setIfInBounds i true = lst N m' := by kernel_rfl) : wpK P .any ops Q S keep (fuel + 1) (lst N m) a w := aq hA i ho hok hQ hS h hd hl k
theorem rg (hA : At n E a) (i m' : Nat) {N m g t : Nat} {b : Bool} {v : Value} (ho : ops[i]? = some ⟨some d, op, ty, pos, af, some (g, b)⟩) (hops : (ops[g]?).bind (·.dst) = some t) (ht : E.look t = some (.bool b)) (hS : S w) (h : ∀ w, S w → Runs P E op ty w v)
    (k : ∀ a', At n ((d, v) :: E) a' → wpK P .any ops Q S keep fuel (lst N m') a' w) (hok : okTake ops keep (lst N m) i = true := by kernel_rfl) (hQ : ∀ c a d v w, Q (.panic c) (a.put d v) w → Q (.panic c) a w := by intro c a d v w h; cases d <;> exact h)
    (hd : Nat.blt d n = true := by rfl) (hl : (lst N m).setIfInBounds i true = lst N m' := by kernel_rfl) : wpK P .any ops Q S keep (fuel + 1) (lst N m) a w := agq hA i ho hok hops ht hQ hS h hd hl k
theorem p0 (hA : At n E a) (i m' : Nat) {N m : Nat} {v : Value} (ho : ops[i]? = some ⟨some d, op, ty, pos, af, none⟩) (h : ∀ w, Runs P E op ty w v)
    (k : ∀ a', At n ((d, v) :: E) a' → wpK P .any ops Q S keep fuel (lst N m') a' w) (hok : okTake ops (fun _ => true) (lst N m) i = true := by kernel_rfl) (hQ : ∀ c a d v w, Q (.panic c) (a.put d v) w → Q (.panic c) a w := by intro c a d v w h; cases d <;> exact h)
    (hd : Nat.blt d n = true := by rfl) (hl : (lst N m).setIfInBounds i true = lst N m' := by kernel_rfl) : wpK P .any ops Q S keep (fuel + 1) (lst N m) a w := apq hA i ho hok hQ h hd hl k
theorem pg (hA : At n E a) (i m' : Nat) {N m g t : Nat} {b : Bool} {v : Value} (ho : ops[i]? = some ⟨some d, op, ty, pos, af, some (g, b)⟩) (hops : (ops[g]?).bind (·.dst) = some t) (ht : E.look t = some (.bool b)) (h : ∀ w, Runs P E op ty w v)
    (k : ∀ a', At n ((d, v) :: E) a' → wpK P .any ops Q S keep fuel (lst N m') a' w) (hok : okTake ops (fun _ => true) (lst N m) i = true := by kernel_rfl) (hQ : ∀ c a d v w, Q (.panic c) (a.put d v) w → Q (.panic c) a w := by intro c a d v w h; cases d <;> exact h)
    (hd : Nat.blt d n = true := by rfl) (hl : (lst N m).setIfInBounds i true = lst N m' := by kernel_rfl) : wpK P .any ops Q S keep (fuel + 1) (lst N m) a w := apgq hA i ho hok hops ht hQ h hd hl k
theorem ps (hA : At n E a) (i m' : Nat) {N m g t : Nat} {b b' : Bool} (ho : ops[i]? = some ⟨some d, op, ty, pos, af, some (g, b)⟩) (hops : (ops[g]?).bind (·.dst) = some t) (ht : E.look t = some (.bool b'))
    (k : ∀ a', At n E a' → wpK P .any ops Q S keep fuel (lst N m') a' w) (hne : (b' == b) = false := by rfl) (hok : okTake ops (fun _ => true) (lst N m) i = true := by kernel_rfl) (hQ : ∀ c a d v w, Q (.panic c) (a.put d v) w → Q (.panic c) a w := by intro c a d v w h; cases d <;> exact h)
    (hd : E.look d = none := by rfl) (hl : (lst N m).setIfInBounds i true = lst N m' := by kernel_rfl) : wpK P .any ops Q S keep (fuel + 1) (lst N m) a w := apgs hA i ho hok hops ht hne hQ hd hl k
theorem a1 (hA : At n E a) (i m' : Nat) {N m : Nat} {Post : Value → World → Prop} (ho : ops[i]? = some ⟨some d, op, ty, pos, af, none⟩) (h : Lo P E op ty w Post)
    (k : ∀ v w', Post v w' → (S w → keep i = true → S w') ∧ ∀ a', At n ((d, v) :: E) a' → wpK P .any ops Q S keep fuel (lst N m') a' w') (hr : Region.ready .any ops (lst N m) = [i] := by kernel_rfl)
    (hd : Nat.blt d n = true := by rfl) (hl : (lst N m).setIfInBounds i true = lst N m' := by kernel_rfl) : wpK P .any ops Q S keep (fuel + 1) (lst N m) a w := al hA i ho hr h hd hl k
theorem a1n (hA : At n E a) (i m' : Nat) {N m : Nat} {Post : Value → World → Prop} (ho : ops[i]? = some ⟨some d, op, ty, pos, af, none⟩) (h : Lo P E op ty w Post)
    (k : ∀ v w', Post v w' → ∀ a', At n ((d, v) :: E) a' → wpK P .any ops Q S keep fuel (lst N m') a' w') (hk : keep i = false := by rfl) (hr : Region.ready .any ops (lst N m) = [i] := by kernel_rfl)
    (hd : Nat.blt d n = true := by rfl) (hl : (lst N m).setIfInBounds i true = lst N m' := by kernel_rfl) : wpK P .any ops Q S keep (fuel + 1) (lst N m) a w := al hA i ho hr h hd hl fun v w' hv => ⟨fun _ h => (by rw [hk] at h; cases h), k v w' hv⟩
theorem a0 (hA : At n E a) (i m' : Nat) {N m : Nat} {Post : Value → World → Prop} (ho : ops[i]? = some ⟨none, op, ty, pos, af, none⟩) (h : Lo P E op ty w Post)
    (k : ∀ v w', Post v w' → (S w → keep i = true → S w') ∧ wpK P .any ops Q S keep fuel (lst N m') a w') (hr : Region.ready .any ops (lst N m) = [i] := by kernel_rfl)
    (hl : (lst N m).setIfInBounds i true = lst N m' := by kernel_rfl) : wpK P .any ops Q S keep (fuel + 1) (lst N m) a w := al0 hA i ho hr h hl k
theorem a0n (hA : At n E a) (i m' : Nat) {N m : Nat} {Post : Value → World → Prop} (ho : ops[i]? = some ⟨none, op, ty, pos, af, none⟩) (h : Lo P E op ty w Post)
    (k : ∀ v w', Post v w' → wpK P .any ops Q S keep fuel (lst N m') a w') (hk : keep i = false := by rfl) (hr : Region.ready .any ops (lst N m) = [i] := by kernel_rfl)
    (hl : (lst N m).setIfInBounds i true = lst N m' := by kernel_rfl) : wpK P .any ops Q S keep (fuel + 1) (lst N m) a w := al0 hA i ho hr h hl fun v w' hv => ⟨fun _ h => (by rw [hk] at h; cases h), k v w' hv⟩
theorem g1 (hA : At n E a) (i m' : Nat) {N m g t : Nat} {b : Bool} {Post : Value → World → Prop} (ho : ops[i]? = some ⟨some d, op, ty, pos, af, some (g, b)⟩) (hops : (ops[g]?).bind (·.dst) = some t) (ht : E.look t = some (.bool b)) (h : Lo P E op ty w Post)
    (k : ∀ v w', Post v w' → (S w → keep i = true → S w') ∧ ∀ a', At n ((d, v) :: E) a' → wpK P .any ops Q S keep fuel (lst N m') a' w') (hr : Region.ready .any ops (lst N m) = [i] := by kernel_rfl)
    (hd : Nat.blt d n = true := by rfl) (hl : (lst N m).setIfInBounds i true = lst N m' := by kernel_rfl) : wpK P .any ops Q S keep (fuel + 1) (lst N m) a w := agl hA i ho hr hops ht h hd hl k
theorem a_end (hr : Region.ready .any ops listed = []) (h : Q .normal a w) : ∀ fuel, wpK P .any ops Q S keep fuel listed a w
  | 0 => ⟨hr, h⟩
  | _ + 1 => ⟨fun _ => h, by rw [hr]; simp⟩
end

/-! ### code -/
section
variable {P : Program} {Q : Exit → Act → World → Prop} {n : Nat} {E : Env} {a : Act} {w : World}

theorem cond_t {c : Operand} {x y : Code} (hA : At n E a) (hc : E.ev c = some (.bool true)) (h : x.wp P Q a w) : (Code.cond c x y).wp P Q a w :=
  wp_cond_true (hA.ev hc) h
theorem cond_f {c : Operand} {x y : Code} (hA : At n E a) (hc : E.ev c = some (.bool false)) (h : y.wp P Q a w) : (Code.cond c x y).wp P Q a w :=
  wp_cond_false (hA.ev hc) h
theorem cond_d {c : Operand} {x y : Code} {p : Prop} [Decidable p] (hA : At n E a) (hc : E.ev c = some (.bool (decide p))) (h1 : p → x.wp P Q a w) (h2 : ¬ p → y.wp P Q a w) :
    (Code.cond c x y).wp P Q a w :=
  wp_cond_split (hA.ev hc) (fun h => h1 (by simpa using h)) (fun h => h2 (by simpa using h))

theorem start {f : FuncId} {fn : Func} {c : Code} {args : Array Value} {R : Ending → World → Prop} (hf : P.funcs[f]? = some fn) (hb : fn.body = some c)
    (hn : fn.ntmps = n) (hs : Nat.ble args.size n = true) (hE : ∀ t v, E.look t = some v → args[t]? = some v)
    (h : ∀ a, At n E a → c.wp P (bodyPost P fn R) a w) : Calls P f args w R := by
  have hs : args.size ≤ n := Nat.le_of_ble_eq_true hs
  refine calls_of_wp hf hb (h _ ⟨?_, rfl, fun t v ht => ?_⟩)
  · simp; omega
  · have h1 := hE t v ht
    have hlt : t < args.size := (Array.getElem?_eq_some_iff.1 h1).1
    simp only [Array.getElem?_append_left hlt, h1]

/-- the arguments as a frame -/
def envOf : Nat → List Value → Env
  | _, [] => []
  | k, v :: r => (k, v) :: envOf (k + 1) r

theorem envOf_look : ∀ (l : List Value) (k t : Nat) (v : Value), Env.look (envOf k l) t = some v → k ≤ t ∧ l[t - k]? = some v
  | [], _, _, _, h => by cases h
  | x :: r, k, t, v, h => by
    rw [envOf, Env.look_cons] at h
    by_cases he : k = t
    · subst he; rw [if_pos rfl] at h; cases h; simp
    · rw [if_neg he] at h
      obtain ⟨h1, h2⟩ := envOf_look r (k + 1) t v h
      refine ⟨by omega, ?_⟩
      rw [show t - k = (t - (k + 1)) + 1 from by omega]
      simpa using h2

theorem args_look {l : List Value} (hE : envOf 0 l = E) : ∀ t v, E.look t = some v → l.toArray[t]? = some v := by
  intro t v h
  subst hE
  have := (envOf_look l 0 t v h).2
  simpa using this

theorem post_ret {fn : Func} {R : Ending → World → Prop} {v : Value} (hA : At n E a) (hr : (results fn a.tmps).run P w = .ok v w) (hR : R (.returned v) w) :
    bodyPost P fn R .ret a w := ⟨hA.defers, v, hr, hR⟩
theorem post_end {fn : Func} {R : Ending → World → Prop} {v : Value} (hA : At n E a) (hr : (results fn a.tmps).run P w = .ok v w) (hR : R (.returned v) w) :
    bodyPost P fn R .normal a w := ⟨hA.defers, v, hr, hR⟩

theorem res_none {fn : Func} (h : fn.results = #[]) : (results fn a.tmps).run P w = .ok (.tuple #[]) w := results_none h _ _ _
theorem res_1 {fn : Func} {t : Nat} {v : Value} (h : fn.results = #[.tmp t]) (hA : At n E a) (ht : E.look t = some v) : (results fn a.tmps).run P w = .ok v w := by
  rw [results_tmp h, hA.getD ht]
theorem res_2 {fn : Func} {t u : Nat} {v x : Value} (h : fn.results = #[.tmp t, .tmp u]) (hA : At n E a) (ht : E.look t = some v) (hu : E.look u = some x) :
    (results fn a.tmps).run P w = .ok (.tuple #[v, x]) w := by
  rw [results_tmp2 h, hA.getD ht, hA.getD hu]
theorem res_3 {fn : Func} {t u s : Nat} {v x y : Value} (h : fn.results = #[.tmp t, .tmp u, .tmp s]) (hA : At n E a) (ht : E.look t = some v) (hu : E.look u = some x) (hs : E.look s = some y) :
    (results fn a.tmps).run P w = .ok (.tuple #[v, x, y]) w := by
  have h1 := hA.getD ht; have h2 := hA.getD hu; have h3 := hA.getD hs
  simp only [Array.getD_eq_getD_getElem?] at h1 h2 h3
  simp [results, h, h1, h2, h3]
theorem res_c {fn : Func} {t T : Nat} {ad : Addr} {v : Value} (h : fn.results = #[.cell t T]) (hA : At n E a) (ht : E.look t = some (.pointer (some ad)))
    (hl : (loadVar T ad).run P w = .ok v w) : (results fn a.tmps).run P w = .ok v w := by
  have h1 := hA.getD ht
  simp only [Array.getD_eq_getD_getElem?] at h1
  simp [results, h, h1, asAddr, hl]
theorem res_c1 {fn : Func} {t T u : Nat} {ad : Addr} {v x : Value} (h : fn.results = #[.cell t T, .tmp u]) (hA : At n E a) (ht : E.look t = some (.pointer (some ad)))
    (hu : E.look u = some x) (hl : (loadVar T ad).run P w = .ok v w) : (results fn a.tmps).run P w = .ok (.tuple #[v, x]) w := by
  have h1 := hA.getD ht
  have h2 := hA.getD hu
  simp only [Array.getD_eq_getD_getElem?] at h1 h2
  simp [results, h, h1, h2, asAddr, hl]
end
end Go.Proofs.YthhdilafnfcpbaaDoor
/- Memory as a list of heaplets: what is known of blocks of one's own, apart from each other; all else is as it was. -/
namespace Go.Proofs.YthhdilafnfcpbaaDoor
open Go
set_option linter.unusedVariables false
set_option linter.unusedSimpArgs false

abbrev Hl := List (Nat × Obj)

def Apart (N N' : Hl) : Prop := ∀ p ∈ N, ∀ q ∈ N', p.1 ≠ q.1

theorem Apart.symm {N N' : Hl} (h : Apart N N') : Apart N' N := fun p hp q hq e => h q hq p hp e.symm

/-- From w0 to w: nothing that was there has turned but the blocks M; w holds the heaplets Hs, apart from each other, each block of them one of M or new. -/
structure HS (M : List Nat) (w0 w : World) (Hs : List Hl) : Prop where
  os : w.os = w0.os
  tape : w.tape = w0.tape
  output : w.output = w0.output
  size : w0.heap.size ≤ w.heap.size
  old : ∀ b, b < w0.heap.size → b ∉ M → w.heap[b]? = w0.heap[b]?
  has : ∀ N ∈ Hs, ∀ p ∈ N, w.heap[p.1]? = some p.2
  nd : ∀ N ∈ Hs, (N.map (·.1)).Nodup
  ap : Hs.Pairwise Apart
  dom : ∀ N ∈ Hs, ∀ p ∈ N, p.1 ∈ M ∨ w0.heap.size ≤ p.1

def doms (Ns : List Hl) : List Nat := Ns.flatten.map (·.1)

theorem mem_doms {Ns : List Hl} {b : Nat} : b ∈ doms Ns ↔ ∃ N ∈ Ns, ∃ p ∈ N, p.1 = b := by
  simp only [doms, List.mem_map, List.mem_flatten]
  constructor
  · rintro ⟨p, ⟨N, hN, hp⟩, rfl⟩; exact ⟨N, hN, p, hp, rfl⟩
  · rintro ⟨N, hN, p, hp, rfl⟩; exact ⟨p, ⟨N, hN, hp⟩, rfl⟩

section
variable {M : List Nat} {w0 w : World} {Hs : List Hl}

theorem HS.lt (h : HS M w0 w Hs) {N : Hl} (hN : N ∈ Hs) {p : Nat × Obj} (hp : p ∈ N) : p.1 < w.heap.size :=
  (Array.getElem?_eq_some_iff.1 (h.has N hN p hp)).1

theorem HS.start (w : World) : HS [] w w [] := ⟨rfl, rfl, rfl, Nat.le_refl _, fun _ _ _ => rfl, by simp, by simp, by simp, by simp⟩

/-- at a function's begin: the heaplets that it was handed -/
theorem HS.begin {w : World} {Ns : List Hl} (h : ∀ N ∈ Ns, ∀ p ∈ N, w.heap[p.1]? = some p.2) (nd : ∀ N ∈ Ns, (N.map (·.1)).Nodup) (ap : Ns.Pairwise Apart) : HS (doms Ns) w w Ns :=
  ⟨rfl, rfl, rfl, Nat.le_refl _, fun _ _ _ => rfl, h, nd, ap, fun N hN p hp => .inl (mem_doms.2 ⟨N, hN, p, hp, rfl⟩)⟩

theorem HS.drew (h : HS M w0 w Hs) : HS M w0 w.drew Hs :=
  ⟨h.os, h.tape, h.output, h.size, h.old, h.has, h.nd, h.ap, h.dom⟩

theorem heap_push {w : World} {o : Obj} {b : Nat} (h : b < w.heap.size) : (w.alloc o).heap[b]? = w.heap[b]? := by
  show (w.heap.push o)[b]? = _
  rw [Array.getElem?_push, if_neg (by omega)]
theorem heap_push_new {w : World} {o : Obj} : (w.alloc o).heap[w.heap.size]? = some o := by
  show (w.heap.push o)[w.heap.size]? = _
  simp

theorem HS.alloc (h : HS M w0 w Hs) (o : Obj) : HS M w0 (w.alloc o) ([(w.heap.size, o)] :: Hs) := by
  refine ⟨h.os, h.tape, h.output, ?_, fun b hb hM => ?_, ?_, ?_, ?_, ?_⟩
  · have := h.size; simp; omega
  · have := h.size; rw [heap_push (by omega)]; exact h.old b hb hM
  · intro N hN p hp
    rcases List.mem_cons.1 hN with rfl | hN
    · simp at hp; subst hp; exact heap_push_new
    · rw [heap_push (h.lt hN hp)]; exact h.has N hN p hp
  · intro N hN
    rcases List.mem_cons.1 hN with rfl | hN
    · simp
    · exact h.nd N hN
  · refine List.pairwise_cons.2 ⟨fun N hN p hp q hq => ?_, h.ap⟩
    simp at hp; subst hp
    have := h.lt hN hq
    simp; omega
  · intro N hN p hp
    rcases List.mem_cons.1 hN with rfl | hN
    · simp at hp; subst hp; exact .inr h.size
    · exact h.dom N hN p hp

/-- picking heaplets out by their places -/
def nth? {α : Type} : List α → Nat → Option α
  | [], _ => none
  | x :: _, 0 => some x
  | _ :: r, i + 1 => nth? r i
def pick {α : Type} : List Nat → List α → List α
  | [], _ => []
  | i :: I, l => match nth? l i with
    | some x => x :: pick I l
    | none => pick I l

theorem nth?_eq {α : Type} : ∀ (l : List α) (i : Nat), nth? l i = l[i]?
  | [], _ => by simp [nth?]
  | x :: r, 0 => by simp [nth?]
  | x :: r, i + 1 => by simp [nth?, nth?_eq r i]

theorem mem_pick {α : Type} {l : List α} {x : α} : ∀ {I : List Nat}, x ∈ pick I l → ∃ i ∈ I, l[i]? = some x
  | [], h => by simp [pick] at h
  | i :: I, h => by
    unfold pick at h
    rw [nth?_eq] at h
    cases hi : l[i]? with
    | none => rw [hi] at h; obtain ⟨j, hj, hx⟩ := mem_pick (I := I) h; exact ⟨j, by simp [hj], hx⟩
    | some y =>
      rw [hi] at h
      rcases List.mem_cons.1 h with rfl | h
      · exact ⟨i, by simp, hi⟩
      · obtain ⟨j, hj, hx⟩ := mem_pick (I := I) h; exact ⟨j, by simp [hj], hx⟩

theorem pick_pairwise {l : List Hl} (h : l.Pairwise Apart) : ∀ {I : List Nat}, I.Nodup → (pick I l).Pairwise Apart
  | [], _ => by simp [pick]
  | i :: I, hI => by
    obtain ⟨hi, hI⟩ := List.nodup_cons.1 hI
    unfold pick
    rw [nth?_eq]
    cases hx : l[i]? with
    | none => exact pick_pairwise h hI
    | some x =>
      refine List.pairwise_cons.2 ⟨fun y hy => ?_, pick_pairwise h hI⟩
      obtain ⟨j, hj, hy⟩ := mem_pick hy
      have hne : i ≠ j := fun e => hi (e ▸ hj)
      have hp := List.pairwise_iff_getElem.1 h
      obtain ⟨hil, rfl⟩ := List.getElem?_eq_some_iff.1 hx
      obtain ⟨hjl, rfl⟩ := List.getElem?_eq_some_iff.1 hy
      rcases Nat.lt_or_gt_of_ne hne with hlt | hgt
      · exact hp i j hil hjl hlt
      · exact (hp j i hjl hil hgt).symm

theorem HS.pick (h : HS M w0 w Hs) (I : List Nat) {Hs' : List Hl} (he : pick I Hs = Hs') (hI : I.Nodup := by decide) : HS M w0 w Hs' := by
  subst he
  have hmem : ∀ N ∈ Go.Proofs.YthhdilafnfcpbaaDoor.pick I Hs, N ∈ Hs := fun N hN => by
    obtain ⟨i, _, hx⟩ := mem_pick hN
    exact List.mem_of_getElem? hx
  exact ⟨h.os, h.tape, h.output, h.size, h.old, fun N hN => h.has N (hmem N hN), fun N hN => h.nd N (hmem N hN), pick_pairwise h.ap hI, fun N hN => h.dom N (hmem N hN)⟩

/-- behind a call to which the front heaplets were handed -/
theorem HS.call {w' : World} {Ns1 rest Ns2 : List Hl} (h : HS M w0 w (Ns1 ++ rest)) (hc : HS (doms Ns1) w w' Ns2) : HS M w0 w' (Ns2 ++ rest) := by
  have ha := List.pairwise_append.1 h.ap
  have key : ∀ N ∈ rest, ∀ p ∈ N, p.1 ∉ doms Ns1 := fun N hN p hp hm => by
    obtain ⟨N1, hN1, q, hq, he⟩ := mem_doms.1 hm
    exact ha.2.2 N1 hN1 N hN q hq p hp he
  have kept : ∀ N ∈ rest, ∀ p ∈ N, w'.heap[p.1]? = some p.2 := fun N hN p hp => by
    have hN' : N ∈ Ns1 ++ rest := List.mem_append_right _ hN
    rw [hc.old p.1 (h.lt hN' hp) (key N hN p hp)]
    exact h.has N hN' p hp
  refine ⟨hc.os.trans h.os, hc.tape.trans h.tape, hc.output.trans h.output, Nat.le_trans h.size hc.size, fun b hb hM => ?_, ?_, ?_, ?_, ?_⟩
  · rw [hc.old b (Nat.lt_of_lt_of_le hb h.size) ?_]
    · exact h.old b hb hM
    · intro hm
      obtain ⟨N, hN, p, hp, rfl⟩ := mem_doms.1 hm
      rcases h.dom N (List.mem_append_left _ hN) p hp with h1 | h1
      · exact hM h1
      · omega
  · intro N hN p hp
    rcases List.mem_append.1 hN with hN | hN
    · exact hc.has N hN p hp
    · exact kept N hN p hp
  · intro N hN
    rcases List.mem_append.1 hN with hN | hN
    · exact hc.nd N hN
    · exact h.nd N (List.mem_append_right _ hN)
  · refine List.pairwise_append.2 ⟨hc.ap, ha.2.1, fun N2 hN2 N hN p hp q hq e => ?_⟩
    rcases hc.dom N2 hN2 p hp with h1 | h1
    · exact key N hN q hq (e ▸ h1)
    · have := h.lt (List.mem_append_right _ hN) hq; omega
  · intro N hN p hp
    rcases List.mem_append.1 hN with hN | hN
    · rcases hc.dom N hN p hp with h1 | h1
      · obtain ⟨N1, hN1, q, hq, he⟩ := mem_doms.1 h1
        rw [← he]
        exact h.dom N1 (List.mem_append_left _ hN1) q hq
      · exact .inr (Nat.le_trans h.size h1)
    · exact h.dom N (List.mem_append_right _ hN) p hp

/-- behind a call that was handed nothing to write to -/
theorem HS.call0 {w' : World} {Ns2 : List Hl} (h : HS M w0 w Hs) (hc : HS [] w w' Ns2) : HS M w0 w' (Ns2 ++ Hs) :=
  HS.call (Ns1 := []) h hc

/-- what a callee is handed -/
theorem HS.handed {Ns1 rest : List Hl} (h : HS M w0 w (Ns1 ++ rest)) : HS (doms Ns1) w w Ns1 :=
  HS.begin (fun N hN => h.has N (List.mem_append_left _ hN)) (fun N hN => h.nd N (List.mem_append_left _ hN)) (List.pairwise_append.1 h.ap).1

/-- the heaplets in front have turned within their own blocks -/
theorem HS.turn {w' : World} {N N' : Hl} {rest : List Hl} (h : HS M w0 w (N :: rest)) (hos : w'.os = w.os) (htape : w'.tape = w.tape) (hout : w'.output = w.output)
    (hsize : w'.heap.size = w.heap.size) (hold : ∀ b, (∀ p ∈ N, p.1 ≠ b) → w'.heap[b]? = w.heap[b]?) (hdom : N'.map (·.1) = N.map (·.1)) (hnew : ∀ p ∈ N', w'.heap[p.1]? = some p.2) : HS M w0 w' (N' :: rest) := by
  have hsub : ∀ p ∈ N', ∃ q ∈ N, q.1 = p.1 := fun p hp => by
    have : p.1 ∈ N.map (·.1) := hdom ▸ List.mem_map_of_mem hp
    simpa using this
  refine HS.call (Ns1 := [N]) (Ns2 := [N']) h ⟨hos, htape, hout, by omega, fun b hb hM => hold b fun p hp e => hM (mem_doms.2 ⟨N, by simp, p, hp, e⟩), ?_, ?_, by simp, ?_⟩
  · intro N2 hN2 p hp
    obtain rfl : N2 = N' := by simpa using hN2
    exact hnew p hp
  · intro N2 hN2
    obtain rfl : N2 = N' := by simpa using hN2
    rw [hdom]
    exact h.nd N (by simp)
  · intro N2 hN2 p hp
    obtain rfl : N2 = N' := by simpa using hN2
    obtain ⟨q, hq, e⟩ := hsub p hp
    exact .inl (mem_doms.2 ⟨N, by simp, q, hq, e⟩)

theorem HS.at0 {b : Nat} {o : Obj} {i : Nat} {N : Hl} (h : HS M w0 w Hs) (hi : nth? Hs i = some N) (hm : (b, o) ∈ N) : w.heap[b]? = some o := by
  rw [nth?_eq] at hi
  exact h.has N (List.mem_of_getElem? hi) (b, o) hm
end

/-! ### slices that are read -/

/-- v is a slice of n elements of k cells; its cells read cs; its block is none of M -/
def Rd (M : List Nat) (w : World) (v : Value) (n k : Nat) (cs : List Value) : Prop :=
  cs.length = n * k ∧ ∃ a cap, v = .slice a n cap ∧ n ≤ cap ∧ (a = none → n = 0 ∧ cap = 0) ∧
    ∀ ad, a = some ad → 0 < cap → ad.spot = none ∧ ad.block ∉ M ∧ ∃ arr E fr, w.heap[ad.block]? = some (.cells arr E fr) ∧ ad.off + cap * k ≤ arr.size ∧
      ∀ i, i < n * k → arr[ad.off + i]? = cs[i]?

theorem Rd.len {M w v n k cs} (h : Rd M w v n k cs) : cs.length = n * k := h.1

theorem Rd.mono {M M' w v n k cs} (h : Rd M w v n k cs) (hM : ∀ m ∈ M', m ∈ M) : Rd M' w v n k cs := by
  obtain ⟨h1, a, cap, h2, h3, h4, h5⟩ := h
  refine ⟨h1, a, cap, h2, h3, h4, fun ad had hc => ?_⟩
  obtain ⟨h6, h7, h8⟩ := h5 ad had hc
  exact ⟨h6, fun hm => h7 (hM _ hm), h8⟩

theorem Rd.plain {M w v n k cs} (h : Rd M w v n k cs) : Rd [] w v n k cs := h.mono (by simp)

theorem Rd.heap {M w w' v n k cs} (h : Rd M w v n k cs) (hw : ∀ b, b < w.heap.size → b ∉ M → w'.heap[b]? = w.heap[b]?) : Rd M w' v n k cs := by
  obtain ⟨h1, a, cap, h2, h3, h4, h5⟩ := h
  refine ⟨h1, a, cap, h2, h3, h4, fun ad had hc => ?_⟩
  obtain ⟨h6, h7, arr, E, fr, h8, h9⟩ := h5 ad had hc
  exact ⟨h6, h7, arr, E, fr, by rw [hw _ (Array.getElem?_eq_some_iff.1 h8).1 h7]; exact h8, h9⟩

/-- an argument's slice, in a later world -/
theorem HS.rd {M w0 w Hs v n k cs} (h : HS M w0 w Hs) (hr : Rd M w0 v n k cs) : Rd [] w v n k cs := (hr.heap h.old).plain

/-- an argument's slice is apart from what a callee is handed -/
theorem HS.rdM {M w0 w v n k cs} {Ns1 rest : List Hl} (h : HS M w0 w (Ns1 ++ rest)) (hr : Rd M w0 v n k cs) : Rd (doms Ns1) w v n k cs := by
  have hr' := hr.heap h.old
  obtain ⟨h1, a, cap, h2, h3, h4, h5⟩ := hr'
  refine ⟨h1, a, cap, h2, h3, h4, fun ad had hc => ?_⟩
  obtain ⟨h6, h7, arr, E, fr, h8, h9⟩ := h5 ad had hc
  refine ⟨h6, fun hm => ?_, arr, E, fr, h8, h9⟩
  obtain ⟨N, hN, p, hp, he⟩ := mem_doms.1 hm
  obtain ⟨_, a0, cap0, e0, _, _, h50⟩ := hr
  rw [h2] at e0
  cases e0
  obtain ⟨_, _, arr0, E0, fr0, h80, _⟩ := h50 ad had hc
  have hlt := (Array.getElem?_eq_some_iff.1 h80).1
  rcases h.dom N (List.mem_append_left _ hN) p hp with h' | h'
  · exact h7 (he ▸ h')
  · omega

/-- the cell of an element -/
theorem Rd.cell {w v n k cs} (h : Rd [] w v n k cs) {i : Nat} (hi : i < n) (hk : 0 < k) :
    ∃ ad cap, v = .slice (some ad) n cap ∧ ad.spot = none ∧ ∀ j, j < k → w.cell? ⟨ad.block, ad.off + i * k + j, none⟩ = cs[i * k + j]? := by
  obtain ⟨h1, a, cap, h2, h3, h4, h5⟩ := h
  cases a with
  | none => have := (h4 rfl).1; omega
  | some ad =>
    obtain ⟨h6, _, arr, E, fr, h8, h9, h10⟩ := h5 ad rfl (by omega)
    refine ⟨ad, cap, h2, h6, fun j hj => ?_⟩
    have hlt : i * k + j < n * k := by
      have : (i + 1) * k ≤ n * k := Nat.mul_le_mul_right k hi
      rw [Nat.add_mul] at this; omega
    have := h10 (i * k + j) hlt
    simp [World.cell?, h8, Nat.add_assoc] at this ⊢
    exact this

/-! ### slices of one's own -/

/-- never frozen within n cells -/
def soft (fr : Nat × Nat) (n : Nat) : Prop := ∀ i, i < n → (decide (fr.1 ≤ i) && decide (i < fr.2)) = false

theorem soft0 (n : Nat) : soft (0, 0) n := fun i _ => by simp

/-- v is a slice of one's own, n elements of k cells of type E that hold cs; N is its memory -/
def Own (E k : Nat) (v : Value) (n : Nat) (cs : List Value) (N : Hl) : Prop :=
  cs.length = n * k ∧ ((v = .slice none 0 0 ∧ n = 0 ∧ N = []) ∨
    ∃ b off cap pre sp fr, v = .slice (some ⟨b, off, none⟩) n cap ∧ N = [(b, .cells (pre ++ cs ++ sp).toArray E fr)] ∧ pre.length = off ∧ n ≤ cap ∧ (cap - n) * k ≤ sp.length ∧
      soft fr (pre ++ cs ++ sp).length)

theorem Own.len {E k v n cs N} (h : Own E k v n cs N) : cs.length = n * k := h.1

theorem Own.rd {M w0 w Hs E k v n cs N} (h : Own E k v n cs N) (hH : HS M w0 w Hs) (hN : N ∈ Hs) (M' : List Nat) (hM : ∀ p ∈ N, p.1 ∉ M') : Rd M' w v n k cs := by
  obtain ⟨h1, h2⟩ := h
  refine ⟨h1, ?_⟩
  rcases h2 with ⟨rfl, rfl, rfl⟩ | ⟨b, off, cap, pre, sp, fr, rfl, rfl, hoff, hcap, hsp, hfr⟩
  · exact ⟨none, 0, rfl, Nat.le_refl _, fun _ => ⟨rfl, rfl⟩, fun ad h => by cases h⟩
  · refine ⟨some ⟨b, off, none⟩, cap, rfl, hcap, (fun h => by cases h), fun ad had _ => ?_⟩
    cases had
    refine ⟨rfl, hM (b, _) (List.mem_singleton.2 rfl), _, E, fr, hH.has _ hN (b, _) (List.mem_singleton.2 rfl), ?_, fun i hi => ?_⟩
    · simp only [List.size_toArray, List.length_append, h1, hoff]
      have : cap * k = n * k + (cap - n) * k := by rw [← Nat.add_mul]; congr 1; omega
      omega
    · simp only [List.getElem?_toArray]
      rw [List.append_assoc, List.getElem?_append_right (by omega), hoff, Nat.add_sub_cancel_left, List.getElem?_append_left (by omega)]

theorem Own.rd0 {M w0 w Hs E k v n cs N} (h : Own E k v n cs N) (hH : HS M w0 w Hs) (i : Nat) (hN : nth? Hs i = some N) : Rd [] w v n k cs := by
  rw [nth?_eq] at hN
  exact h.rd hH (List.mem_of_getElem? hN) [] (by simp)

/-- a slice of one's own is apart from what a callee is handed -/
theorem Own.rdM {M w0 w E k v n cs N} {Ns1 rest : List Hl} (h : Own E k v n cs N) (hH : HS M w0 w (Ns1 ++ rest)) (i : Nat) (hN : nth? rest i = some N) : Rd (doms Ns1) w v n k cs := by
  rw [nth?_eq] at hN
  have hN := List.mem_of_getElem? hN
  refine h.rd hH (List.mem_append_right _ hN) _ fun p hp hm => ?_
  obtain ⟨N1, hN1, q, hq, he⟩ := mem_doms.1 hm
  exact (List.pairwise_append.1 hH.ap).2.2 N1 hN1 N hN q hq p hp he

/-! ### numbers -/
def B8 (x : BitVec 8) : Value := .int .u8 x.toNat
def U32 (x : BitVec 32) : Value := .int .u32 x.toNat
def U64 (x : BitVec 64) : Value := .int .u64 x.toNat
abbrev I (n : Int) : Value := .int .i64 n

/-- bytes -/
abbrev By (M : List Nat) (w : World) (v : Value) (l : List (BitVec 8)) : Prop := Rd M w v l.length 1 (l.map B8)
end Go.Proofs.YthhdilafnfcpbaaDoor
/- Operations that leave the world alone. -/
namespace Go.Proofs.YthhdilafnfcpbaaDoor
open Go
set_option linter.unusedVariables false
set_option linter.unusedSimpArgs false

theorem wrapU (k : IntKind) (hk : k.signed = false) (n : Int) : k.wrap n = n % (2 ^ k.bits : Int) := by
  simp [IntKind.wrap, hk]
theorem wrap_i64 {n : Int} (h1 : -9223372036854775808 ≤ n) (h2 : n ≤ 9223372036854775807) : IntKind.i64.wrap n = n := by
  have e1 : ((2 : Int) ^ 64) = 18446744073709551616 := rfl
  have e2 : ((2 : Int) ^ (64 - 1)) = 9223372036854775808 := rfl
  simp only [IntKind.wrap, IntKind.bits, IntKind.signed, Bool.true_and, decide_eq_true_eq, e1, e2]
  split <;> omega

section
variable {P : Program} {E : Env} {ty t t' : TypeId} {w : World} {x y : Operand}

theorem q_move {v : Value} (h : E.ev x = some v) : Runs P E (.move x) ty w v := by
  intro ρ dst pos af g hρ; simp [execOp, hρ _ _ h]
theorem q_assign {v : Value} (h : E.ev x = some v) : Runs P E (.assign x) ty w v := by
  intro ρ dst pos af g hρ; simp [execOp, hρ _ _ h]
theorem q_pick_t {c a b : Operand} {v : Value} (hc : E.ev c = some (.bool true)) (h : E.ev a = some v) : Runs P E (.pick c a b) ty w v := by
  intro ρ dst pos af g hρ; simp [execOp, hρ _ _ h, hρ _ _ hc, asBool]
theorem q_pick_f {c a b : Operand} {v : Value} (hc : E.ev c = some (.bool false)) (h : E.ev b = some v) : Runs P E (.pick c a b) ty w v := by
  intro ρ dst pos af g hρ; simp [execOp, hρ _ _ h, hρ _ _ hc, asBool]
theorem q_extract {vs : List Value} {i : Nat} {v : Value} (h : E.ev x = some (.tuple vs.toArray)) (hv : nth? vs i = some v) : Runs P E (.extract x i) ty w v := by
  rw [nth?_eq] at hv
  intro ρ dst pos af g hρ; simp [execOp, hρ _ _ h, Instr.extract, hv]
theorem q_nilCheck {a : Addr} (h : E.ev x = some (.pointer (some a))) : Runs P E (.nilCheck x) ty w (.pointer (some a)) := by
  intro ρ dst pos af g hρ; simp [execOp, hρ _ _ h]
theorem q_not {b : Bool} (h : E.ev x = some (.bool b)) : Runs P E (.unOp .not t x) ty w (.bool !b) := by
  intro ρ dst pos af g hρ; simp [execOp, hρ _ _ h, Op.unary]

/-- what a binary operation on whole numbers of one kind asks of its run -/
theorem q_bin {op : BinOp} {k : IntKind} {m n : Int} {v : Value} (hx : E.ev x = some (.int k m)) (hy : E.ev y = some (.int k n))
    (hr : (binOp op t (.int k m) (.int k n)).run P w = .ok v w) : Runs P E (.binOp op t x y t') ty w v := by
  intro ρ dst pos af g hρ
  simp only [execOp, hρ _ _ hx, hρ _ _ hy]
  cases op <;> simp [eqGuard, hr]

/-! int -/
section
variable {m n : Int}
theorem q_addI (hx : E.ev x = some (I m)) (hy : E.ev y = some (I n)) (h : -9223372036854775808 ≤ m + n ∧ m + n ≤ 9223372036854775807) : Runs P E (.binOp .add t x y t') ty w (I (m + n)) :=
  q_bin hx hy (by simp [binOp, Op.intArith, wrap_i64 h.1 h.2])
theorem q_subI (hx : E.ev x = some (I m)) (hy : E.ev y = some (I n)) (h : -9223372036854775808 ≤ m - n ∧ m - n ≤ 9223372036854775807) : Runs P E (.binOp .sub t x y t') ty w (I (m - n)) :=
  q_bin hx hy (by simp [binOp, Op.intArith, wrap_i64 h.1 h.2])
theorem q_mulI (hx : E.ev x = some (I m)) (hy : E.ev y = some (I n)) (h : -9223372036854775808 ≤ m * n ∧ m * n ≤ 9223372036854775807) : Runs P E (.binOp .mul t x y t') ty w (I (m * n)) :=
  q_bin hx hy (by simp [binOp, Op.intArith, wrap_i64 h.1 h.2])
theorem q_remI (hx : E.ev x = some (I m)) (hy : E.ev y = some (I n)) (h : 0 ≤ m ∧ 1 ≤ n) : Runs P E (.binOp .rem t x y t') ty w (I (m % n)) := by
  refine q_bin hx hy ?_
  have e : m.tmod n = m % n := Int.tmod_eq_emod_of_nonneg h.1
  simp only [binOp, Op.intDiv]
  simp [show n ≠ 0 by omega, e]
theorem q_lssI (hx : E.ev x = some (I m)) (hy : E.ev y = some (I n)) : Runs P E (.binOp .lss t x y t') ty w (.bool (decide (m < n))) := q_bin hx hy (by simp [binOp, Op.intCmp])
theorem q_leqI (hx : E.ev x = some (I m)) (hy : E.ev y = some (I n)) : Runs P E (.binOp .leq t x y t') ty w (.bool (decide (m ≤ n))) := q_bin hx hy (by simp [binOp, Op.intCmp])
theorem q_gtrI (hx : E.ev x = some (I m)) (hy : E.ev y = some (I n)) : Runs P E (.binOp .gtr t x y t') ty w (.bool (decide (n < m))) := q_bin hx hy (by simp [binOp, Op.intCmp])
theorem q_geqI (hx : E.ev x = some (I m)) (hy : E.ev y = some (I n)) : Runs P E (.binOp .geq t x y t') ty w (.bool (decide (n ≤ m))) := q_bin hx hy (by simp [binOp, Op.intCmp])
theorem q_eqlI (hx : E.ev x = some (I m)) (hy : E.ev y = some (I n)) : Runs P E (.binOp .eql t x y t') ty w (.bool (decide (m = n))) := by
  refine q_bin hx hy ?_
  simp only [binOp, Op.intCmp]
  by_cases h : m = n <;> simp [h]
theorem q_neqI (hx : E.ev x = some (I m)) (hy : E.ev y = some (I n)) : Runs P E (.binOp .neq t x y t') ty w (.bool (decide (m ≠ n))) := by
  refine q_bin hx hy ?_
  simp only [binOp, Op.intCmp]
  by_cases h : m = n <;> simp [h]
end

/-! whole numbers without a sign -/
section
variable {k : IntKind} {p q : BitVec k.bits}
abbrev UV (k : IntKind) (p : BitVec k.bits) : Value := .int k p.toNat
theorem toNat_mod {n : Nat} (p : BitVec n) : (p.toNat : Int) % (2 ^ n : Int) = p.toNat := by
  have := p.isLt
  rw [Int.emod_eq_of_lt (by omega) (by exact_mod_cast this)]
theorem q_addU (hk : k.signed = false) (hx : E.ev x = some (UV k p)) (hy : E.ev y = some (UV k q)) : Runs P E (.binOp .add t x y t') ty w (UV k (p + q)) := by
  refine q_bin hx hy ?_
  simp only [binOp, Op.intArith, wrapU k hk, BitVec.toNat_add]
  simp
theorem q_subU (hk : k.signed = false) (hx : E.ev x = some (UV k p)) (hy : E.ev y = some (UV k q)) : Runs P E (.binOp .sub t x y t') ty w (UV k (p - q)) := by
  refine q_bin hx hy ?_
  have h1 := p.isLt
  have h2 := q.isLt
  have e : ((p.toNat : Int) - q.toNat) % (2 ^ k.bits : Int) = (((2 ^ k.bits - q.toNat + p.toNat) % 2 ^ k.bits : Nat) : Int) := by
    rw [Int.natCast_emod, Int.natCast_add, Int.natCast_sub (by omega)]
    simp only [Int.natCast_pow, Int.cast_ofNat_Int]
    rw [show ((2 : Int) ^ k.bits - q.toNat + p.toNat) = (p.toNat - q.toNat) + 2 ^ k.bits by omega]
    simp
  simp only [binOp, Op.intArith, wrapU k hk, BitVec.toNat_sub, e]
  simp
theorem ofInt_toNat {n : Nat} (p : BitVec n) : BitVec.ofInt n (p.toNat : Int) = p := by
  simp [BitVec.ofInt_natCast]
theorem q_andU (hk : k.signed = false) (hx : E.ev x = some (UV k p)) (hy : E.ev y = some (UV k q)) : Runs P E (.binOp .and t x y t') ty w (UV k (p &&& q)) := by
  refine q_bin hx hy ?_
  simp only [binOp, Op.intBits, wrapU k hk, ofInt_toNat, toNat_mod]
  simp
theorem q_orU (hk : k.signed = false) (hx : E.ev x = some (UV k p)) (hy : E.ev y = some (UV k q)) : Runs P E (.binOp .or t x y t') ty w (UV k (p ||| q)) := by
  refine q_bin hx hy ?_
  simp only [binOp, Op.intBits, wrapU k hk, ofInt_toNat, toNat_mod]
  simp
theorem q_xorU (hk : k.signed = false) (hx : E.ev x = some (UV k p)) (hy : E.ev y = some (UV k q)) : Runs P E (.binOp .xor t x y t') ty w (UV k (p ^^^ q)) := by
  refine q_bin hx hy ?_
  simp only [binOp, Op.intBits, wrapU k hk, ofInt_toNat, toNat_mod]
  simp
theorem q_eqlU (hx : E.ev x = some (UV k p)) (hy : E.ev y = some (UV k q)) : Runs P E (.binOp .eql t x y t') ty w (.bool (decide (p = q))) := by
  refine q_bin hx hy ?_
  simp only [binOp, Op.intCmp]
  by_cases h : p = q
  · simp [h]
  · have : ¬ p.toNat = q.toNat := fun e => h (BitVec.eq_of_toNat_eq e)
    have : ((p.toNat : Int) == q.toNat) = false := by simp; omega
    simp [h, this]
theorem q_neqU (hx : E.ev x = some (UV k p)) (hy : E.ev y = some (UV k q)) : Runs P E (.binOp .neq t x y t') ty w (.bool (decide (p ≠ q))) := by
  refine q_bin hx hy ?_
  simp only [binOp, Op.intCmp]
  by_cases h : p = q
  · simp [h]
  · have : ¬ p.toNat = q.toNat := fun e => h (BitVec.eq_of_toNat_eq e)
    have : ((p.toNat : Int) == q.toNat) = false := by simp; omega
    simp [h, bne, this]
theorem q_gtrU (hx : E.ev x = some (UV k p)) (hy : E.ev y = some (UV k q)) : Runs P E (.binOp .gtr t x y t') ty w (.bool (decide (q.toNat < p.toNat))) := q_bin hx hy (by simp [binOp, Op.intCmp])
theorem q_shift {op : BinOp} {k k' : IntKind} {m n : Int} {v : Value} (hop : op = .shl ∨ op = .shr) (hx : E.ev x = some (.int k m)) (hy : E.ev y = some (.int k' n))
    (hr : (Op.shift op k m k' n).run P w = .ok v w) : Runs P E (.binOp op t x y t') ty w v := by
  intro ρ dst pos af g hρ
  simp only [execOp, hρ _ _ hx, hρ _ _ hy]
  rcases hop with rfl | rfl <;> simp [eqGuard, binOp, hr]
theorem q_shrU {k' : IntKind} {n : Nat} (hx : E.ev x = some (UV k p)) (hy : E.ev y = some (.int k' n)) : Runs P E (.binOp .shr t x y t') ty w (UV k (p >>> n)) := by
  refine q_shift (.inr rfl) hx hy ?_
  have e : (p.toNat : Int).fdiv (2 ^ min n k.bits) = ((p >>> n).toNat : Int) := by
    rw [BitVec.toNat_ushiftRight, Nat.shiftRight_eq_div_pow]
    rw [show ((2 : Int) ^ min n k.bits) = ((2 ^ min n k.bits : Nat) : Int) by simp]
    rw [Int.fdiv_eq_ediv_of_nonneg _ (Int.natCast_nonneg _), ← Int.natCast_ediv]
    congr 1
    rcases Nat.le_total n k.bits with h | h
    · rw [Nat.min_eq_left h]
    · rw [Nat.min_eq_right h]
      have h1 := p.isLt
      rw [Nat.div_eq_of_lt h1, Nat.div_eq_of_lt (Nat.lt_of_lt_of_le h1 (Nat.pow_le_pow_right (by omega) h))]
  simp only [Op.shift]
  rw [if_neg (by omega)]
  simp [e]
theorem q_shlU (hk : k.signed = false) {k' : IntKind} {n : Nat} (hx : E.ev x = some (UV k p)) (hy : E.ev y = some (.int k' n)) : Runs P E (.binOp .shl t x y t') ty w (UV k (p <<< n)) := by
  refine q_shift (.inl rfl) hx hy ?_
  have e : ((p.toNat : Int) * 2 ^ min n k.bits) % 2 ^ k.bits = ((p <<< n).toNat : Int) := by
    rw [BitVec.toNat_shiftLeft, Nat.shiftLeft_eq]
    rw [Int.natCast_emod, Int.natCast_mul]
    simp only [Int.natCast_pow, Int.cast_ofNat_Int]
    rcases Nat.le_total n k.bits with h | h
    · rw [Nat.min_eq_left h]
    · rw [Nat.min_eq_right h]
      have h2 : ((2 : Int) ^ n) = 2 ^ k.bits * 2 ^ (n - k.bits) := by rw [← Int.pow_add]; congr 1; omega
      rw [h2]
      have h3 : ((p.toNat : Int) * (2 ^ k.bits * 2 ^ (n - k.bits))) = 2 ^ k.bits * (p.toNat * 2 ^ (n - k.bits)) := by
        rw [← Int.mul_assoc, Int.mul_comm (p.toNat : Int) (2 ^ k.bits), Int.mul_assoc]
      rw [h3]
      simp
  simp only [Op.shift]
  rw [if_neg (by omega)]
  simp [wrapU k hk, e]
end

/-! conversions -/
theorem q_conv {k k' : IntKind} {n : Int} (hs : P.underlying t = some (.int k)) (hd : P.underlying t' = some (.int k')) (hx : E.ev x = some (.int k n)) :
    Runs P E (.convert t t' x) ty w (.int k' (k'.wrap n)) := by
  intro ρ dst pos af g hρ
  simp [execOp, hρ _ _ hx, convert, run_underlying hs, run_underlying hd, Conv.intToInt]
end
end Go.Proofs.YthhdilafnfcpbaaDoor
/- Operations that look at memory, write it, make it. -/
namespace Go.Proofs.YthhdilafnfcpbaaDoor
open Go
set_option linter.unusedVariables false
set_option linter.unusedSimpArgs false

/-- a type's row of the table -/
def TI (P : Program) (t k b : Nat) (z : Value) : Prop := ∃ i, P.info? t = some i ∧ i.size = k ∧ i.bytes = b ∧ i.zero = some z

theorem TI.size {P t k b z} (h : TI P t k b z) (w : World) : (sizeOf t).run P w = .ok k w := by
  obtain ⟨i, h1, h2, _, _⟩ := h
  simp [sizeOf, run_typeInfo w h1, h2]
theorem TI.zero {P t k b z} (h : TI P t k b z) (w : World) : (zeroValue t).run P w = .ok z w := by
  obtain ⟨i, h1, _, _, h2⟩ := h
  simp [zeroValue, run_typeInfo w h1, h2]

def flat : TypeDesc → Bool
  | .struct _ | .array _ _ => false
  | _ => true

theorem isAgg_flat {P : Program} {t : TypeId} {d : TypeDesc} (h : P.underlying t = some d) (hd : flat d = true) (w : World) : (isAgg t).run P w = .ok false w := by
  unfold isAgg
  simp only [Sem.run_bind, run_underlying h, Result.andThen_ok]
  cases d <;> first | rfl | cases hd
theorem isAgg_agg {P : Program} {t : TypeId} {d : TypeDesc} (h : P.underlying t = some d) (hd : flat d = false) (w : World) : (isAgg t).run P w = .ok true w := by
  unfold isAgg
  simp only [Sem.run_bind, run_underlying h, Result.andThen_ok]
  cases d <;> first | rfl | cases hd

theorem add_off (b o n : Nat) : (⟨b, o, none⟩ : Addr).add n = ⟨b, o + n, none⟩ := by
  unfold Addr.add; split <;> simp_all

/-- where a slice's cell j lies -/
def _root_.Go.Value.cellAt : Value → Nat → Addr
  | .slice (some a) _ _, j => ⟨a.block, a.off + j, none⟩
  | _, j => ⟨0, j, none⟩

theorem cellAt_add (v : Value) (j i : Nat) : (v.cellAt j).add i = v.cellAt (j + i) := by
  unfold Value.cellAt
  split <;> simp [add_off, Nat.add_assoc]

theorem Rd.at {w v n k cs} (h : Rd [] w v n k cs) {j : Nat} (hj : j < n * k) : w.cell? (v.cellAt j) = cs[j]? := by
  obtain ⟨h1, a, cap, rfl, h3, h4, h5⟩ := h
  cases a with
  | none => have := (h4 rfl).1; subst this; omega
  | some ad =>
    have hn0 : 0 < n := Nat.pos_of_ne_zero fun h => by subst h; omega
    obtain ⟨h6, _, arr, E, fr, h8, h9, h10⟩ := h5 ad rfl (by omega)
    have := h10 j hj
    simp [Value.cellAt, World.cell?, h8] at this ⊢
    exact this

section
variable {P : Program} {E : Env} {ty t t' : TypeId} {w : World} {x y : Operand} {M : List Nat} {w0 : World} {Hs : List Hl}

/-! ### lengths, places -/
/-- v is a slice of n elements -/
def Shp (v : Value) (n : Nat) : Prop := ∃ a cap, v = .slice a n cap ∧ n ≤ cap ∧ (a = none → n = 0) ∧ ∀ ad, a = some ad → 0 < cap → ad.spot = none
theorem Rd.shp {M w v n k cs} (h : Rd M w v n k cs) : Shp v n := by
  obtain ⟨_, a, cap, h2, h3, h4, h5⟩ := h
  exact ⟨a, cap, h2, h3, fun e => (h4 e).1, fun ad e hc => (h5 ad e hc).1⟩
theorem Own.shp {E k v n cs N} (h : Own E k v n cs N) : Shp v n := by
  rcases h.2 with ⟨rfl, rfl, _⟩ | ⟨b, off, cap, pre, sp, fr, rfl, _, _, hc, _⟩
  · exact ⟨_, _, rfl, Nat.le_refl _, fun _ => rfl, fun ad h => by cases h⟩
  · exact ⟨_, _, rfl, hc, (fun h => by cases h), fun ad h _ => by cases h; rfl⟩
theorem Shp.arr (b o n : Nat) : Shp (.slice (some ⟨b, o, none⟩) n n) n := ⟨_, _, rfl, Nat.le_refl _, (fun h => by cases h), fun ad h _ => by cases h; rfl⟩
theorem Shp.nil : Shp (.slice none 0 0) 0 := ⟨_, _, rfl, Nat.le_refl _, fun _ => rfl, fun ad h => by cases h⟩

theorem q_len {T : TypeId} {e : TypeId} {v : Value} {n : Nat} (hT : P.underlying T = some (.slice e)) (hx : E.ev x = some v) (hr : Shp v n) :
    Runs P E (.call ⟨.builtin .len, #[x], #[T]⟩) ty w (I n) := by
  intro ρ dst pos af g hρ
  obtain ⟨a, cap, rfl, _⟩ := hr
  simp [execOp, resolve, invoke, builtin, hρ _ _ hx, Builtin.len_, run_underlying hT, goInt]
theorem q_idx {e : TypeId} {v : Value} {n k bb : Nat} {z : Value} {kk : IntKind} {i : Int} (hT : P.underlying t = some (.slice e)) (he : TI P e k bb z) (hx : E.ev x = some v) (hy : E.ev y = some (.int kk i))
    (hr : Shp v n) (hi : 0 ≤ i ∧ i < n) : Runs P E (.indexAddr t x y) ty w (.pointer (some (v.cellAt (i.toNat * k)))) := by
  intro ρ dst pos af g hρ
  obtain ⟨a, cap, rfl, h3, h4, h5⟩ := hr
  cases a with
  | none => have := h4 rfl; omega
  | some ad =>
    have h6 := h5 ad rfl (by omega)
    obtain ⟨b, o, s⟩ := ad
    simp only at h6
    subst h6
    simp [execOp, hρ _ _ hx, hρ _ _ hy, Instr.indexAt, asIntOf, run_underlying hT, hi.1, hi.2, he.size, add_off, Value.cellAt]

/-- the address of an element of an array -/
theorem q_idxA {e : TypeId} {len k bb : Nat} {z : Value} {kk : IntKind} {i : Int} {b o : Nat} (hT : P.underlying t = some (.array len e)) (he : TI P e k bb z) (hx : E.ev x = some (.pointer (some ⟨b, o, none⟩))) (hy : E.ev y = some (.int kk i))
    (hi : 0 ≤ i ∧ i < len) : Runs P E (.indexAddr t x y) ty w (.pointer (some ⟨b, o + i.toNat * k, none⟩)) := by
  intro ρ dst pos af g hρ
  simp only [execOp, hρ _ _ hx, hρ _ _ hy, Instr.indexAt]
  simp [asIntOf, run_underlying hT, Instr.sureAddr, hi.1, hi.2, he.size, add_off]

/-- an element of an array at hand -/
theorem q_index {e : TypeId} {len k bb : Nat} {z : Value} {kk : IntKind} {i : Int} {cs : Array Value} {u : Value} {d : TypeDesc} (hT : P.underlying t = some (.array len e)) (he : TI P e k bb z) (hd : P.underlying e = some d) (hf : flat d = true)
    (hx : E.ev x = some (.agg cs)) (hy : E.ev y = some (.int kk i))
    (hi : 0 ≤ i ∧ i < len) (hu : cs[i.toNat * k]? = some u) : Runs P E (.index t x y) ty w u := by
  intro ρ dst pos af g hρ
  simp [execOp, hρ _ _ hx, hρ _ _ hy, Instr.index, asIntOf, run_underlying hT, hi.1, hi.2, he.size, part, isAgg_flat hd hf, hu]

theorem q_fieldAddr {fs : Array Field} {f : Field} {i k bb : Nat} {z : Value} {b o : Nat} (hT : P.underlying t = some (.struct fs)) (hf : fs[i]? = some f) (he : TI P f.type (k + 1) bb z)
    (hx : E.ev x = some (.pointer (some ⟨b, o, none⟩))) : Runs P E (.fieldAddr t x i) ty w (.pointer (some ⟨b, o + f.offset, none⟩)) := by
  intro ρ dst pos af g hρ
  simp [execOp, hρ _ _ hx, Instr.fieldAt, run_underlying hT, hf, Instr.sureAddr, fieldPlace, he.size, add_off]

/-! ### loads -/
theorem q_load_cell {d : TypeDesc} {ad : Addr} {u : Value} (hT : P.underlying t = some d) (hf : flat d = true) (hx : E.ev x = some (.pointer (some ad))) (hu : w.cell? ad = some u) :
    Runs P E (.load t x) ty w u := by
  intro ρ dst pos af g hρ
  simp [execOp, hρ _ _ hx, Instr.loadAt, Instr.sureAddr, loadVar, isAgg_flat hT hf, hu]

/-- an element of a slice -/
theorem q_loadR {d : TypeDesc} {v u : Value} {n k j : Nat} {cs : List Value} (hT : P.underlying t = some d) (hf : flat d = true) (hx : E.ev x = some (.pointer (some (v.cellAt j))))
    (hr : Rd [] w v n k cs) (hj : j < n * k) (hu : cs[j]? = some u) : Runs P E (.load t x) ty w u :=
  q_load_cell hT hf hx (by rw [hr.at hj, hu])

theorem run_loadAgg {d : TypeDesc} {ad : Addr} {k bb : Nat} {z : Value} (hT : P.underlying t = some d) (hf : flat d = false) (he : TI P t k bb z) (cs : List Value) (hk : cs.length = k)
    (h : ∀ j v, cs[j]? = some v → w.cell? (ad.add j) = some v) : (loadVar t ad).run P w = .ok (.agg cs.toArray) w := by
  unfold loadVar
  simp only [Sem.run_bind, isAgg_agg hT hf, Result.andThen_ok, if_true, he.size]
  subst hk
  have := run_loadCells_list (P := P) w ad cs h
  simp [this]

theorem q_loadA {d : TypeDesc} {ad : Addr} {k bb : Nat} {z : Value} (hT : P.underlying t = some d) (hf : flat d = false) (he : TI P t k bb z) (hx : E.ev x = some (.pointer (some ad))) (cs : List Value) (hk : cs.length = k)
    (h : ∀ j v, cs[j]? = some v → w.cell? (ad.add j) = some v) : Runs P E (.load t x) ty w (.agg cs.toArray) := by
  intro ρ dst pos af g hρ
  simp [execOp, hρ _ _ hx, Instr.loadAt, Instr.sureAddr, run_loadAgg hT hf he cs hk h]

theorem cell_at {b o : Nat} {c : Array Value} {T : Nat} {fr : Nat × Nat} (h : w.heap[b]? = some (.cells c T fr)) : w.cell? ⟨b, o, none⟩ = c[o]? := by
  simp [World.cell?, h]

/-- a cell of a block of one's own -/
theorem q_loadB {d : TypeDesc} {b o T : Nat} {fr : Nat × Nat} {c : List Value} {u : Value} (hH : HS M w0 w Hs) (i : Nat) {N : Hl} (hi : nth? Hs i = some N) (hm : (b, Obj.cells c.toArray T fr) ∈ N)
    (hT : P.underlying t = some d) (hf : flat d = true) (hx : E.ev x = some (.pointer (some ⟨b, o, none⟩))) (hu : c[o]? = some u) : Runs P E (.load t x) ty w u :=
  q_load_cell hT hf hx (by rw [cell_at (hH.at0 hi hm)]; simpa using hu)

/-- an array or a struct within a block of one's own -/
theorem q_loadBA {d : TypeDesc} {b o T k bb : Nat} {z : Value} {fr : Nat × Nat} {c : List Value} (hH : HS M w0 w Hs) (i : Nat) {N : Hl} (hi : nth? Hs i = some N) (hm : (b, Obj.cells c.toArray T fr) ∈ N)
    (hT : P.underlying t = some d) (hf : flat d = false) (he : TI P t k bb z) (hx : E.ev x = some (.pointer (some ⟨b, o, none⟩))) (es : List Value) (hes : (c.drop o).take k = es) (hk : es.length = k) : Runs P E (.load t x) ty w (.agg es.toArray) := by
  refine q_loadA hT hf he hx es hk fun j u hu => ?_
  rw [add_off, cell_at (hH.at0 hi hm)]
  rw [← hes, List.getElem?_take] at hu
  split at hu
  · simpa using hu
  · cases hu

/-- the results of a function that lie in memory -/
theorem loadVar_own {d : TypeDesc} {b T k bb : Nat} {z : Value} {fr : Nat × Nat} {c : List Value} (hH : HS M w0 w Hs) (i : Nat) {N : Hl} (hi : nth? Hs i = some N) (hm : (b, Obj.cells c.toArray T fr) ∈ N)
    (hT : P.underlying t = some d) (hf : flat d = false) (he : TI P t k bb z) (hk : c.length = k) : (loadVar t ⟨b, 0, none⟩).run P w = .ok (.agg c.toArray) w := by
  refine run_loadAgg hT hf he c hk fun j u hu => ?_
  rw [add_off, cell_at (hH.at0 hi hm)]
  simpa using hu

/-! ### new memory -/
theorem lo_alloc {k bb : Nat} {z : Value} (hH : HS M w0 w Hs) (he : TI P t k bb z) :
    Lo P E (.alloc t) ty w (fun v w' => ∃ b, v = .pointer (some ⟨b, 0, none⟩) ∧ HS M w0 w' ([(b, .cells z.cells t (0, 0))] :: Hs)) := by
  intro a dst pos af g K Q ha hK
  simp [Oper.wp, execOp, Instr.alloc, he.zero, newVar, newRow, Oper.upon]
  exact hK _ _ ⟨w.heap.size, rfl, hH.alloc _⟩

theorem lo_box {v : Value} (hH : HS M w0 w Hs) (hx : E.ev x = some v) :
    Lo P E (.box t x) ty w (fun v' w' => ∃ b, v' = .pointer (some ⟨b, 0, none⟩) ∧ HS M w0 w' ([(b, .cells v.cells t (0, 0))] :: Hs)) := by
  intro a dst pos af g K Q ha hK
  simp [Oper.wp, execOp, Instr.box, ha _ _ hx, newVar, newRow, Oper.upon]
  exact hK _ _ ⟨w.heap.size, rfl, hH.alloc _⟩

/-- the values of a literal's parts -/
def evs (E : Env) : List (Nat × Operand) → Option (List (Nat × Value))
  | [] => some []
  | p :: r => match E.ev p.2, evs E r with
    | some v, some l => some ((p.1, v) :: l)
    | _, _ => none

theorem evs_map {E : Env} {ρ : Operand → Value} (hρ : ∀ x u, E.ev x = some u → ρ x = u) : ∀ {l : List (Nat × Operand)} {l' : List (Nat × Value)}, evs E l = some l' → l.map (fun p => (p.1, ρ p.2)) = l'
  | [], l', h => by simp [evs] at h; simp [h]
  | p :: r, l', h => by
    unfold evs at h
    split at h
    · rename_i v l hv hl
      cases h
      simp [hρ _ _ hv, evs_map hρ hl]
    · cases h

theorem q_build {parts : List (Nat × Operand)} {vs : List (Nat × Value)} {v : Value} (hp : evs E parts = some vs) (hr : ∀ w, (Instr.build t vs.toArray).run P w = .ok v w) : Runs P E (.build t parts.toArray) ty w v := by
  intro ρ dst pos af g hρ
  have := evs_map hρ hp
  simp [execOp, this, hr]

theorem lo_buildSlice {n : Nat} {parts : List (Nat × Operand)} {vs : List (Nat × Value)} {e k bb : Nat} {z : Value} {cs : List Value} (hH : HS M w0 w Hs) (hp : evs E parts = some vs)
    (hk : cs.length = n * k) (hr : ∀ w, (Instr.buildSlice t n vs.toArray).run P w = .ok (.slice (some ⟨w.heap.size, 0, none⟩) n n) (w.alloc (.cells cs.toArray e))) :
    Lo P E (.buildSlice t n parts.toArray) ty w (fun v w' => ∃ N, Own e k v n cs N ∧ HS M w0 w' (N :: Hs)) := by
  intro a dst pos af g K Q ha hK
  have := evs_map ha hp
  simp [Oper.wp, execOp, this, hr, Oper.upon]
  refine hK _ _ ⟨_, ⟨hk, .inr ⟨w.heap.size, 0, n, [], [], (0, 0), rfl, rfl, rfl, Nat.le_refl _, by simp, soft0 _⟩⟩, ?_⟩
  have := hH.alloc (.cells cs.toArray e)
  simpa using this

/-! ### stores -/
theorem heap_setCell {a : Addr} {u : Value} {b : Nat} (h : a.block ≠ b) : (w.setCell a u).heap[b]? = w.heap[b]? := by
  simp only [World.setCell, Array.getElem?_modify]
  rw [if_neg h]
theorem heap_setCell_at {b o : Nat} {u : Value} {c : List Value} {T : Nat} {fr : Nat × Nat} (h : w.heap[b]? = some (.cells c.toArray T fr)) : (w.setCell ⟨b, o, none⟩ u).heap[b]? = some (.cells (c.set o u).toArray T fr) := by
  simp only [World.setCell, Array.getElem?_modify, if_pos, h, Option.map_some]
  simp

theorem run_store1 {b o : Nat} {u : Value} {c : List Value} {T : Nat} {fr : Nat × Nat} (h : w.heap[b]? = some (.cells c.toArray T fr)) (ho : o < c.length) (hf : soft fr c.length) (h1 : u.oneCell' = true) :
    (store ⟨b, o, none⟩ u).run P w = .ok () (w.setCell ⟨b, o, none⟩ u) := by
  rw [run_store _ _ _ _ _ h1]
  have hc : w.cell? ⟨b, o, none⟩ = some c[o] := by rw [cell_at h]; simp [ho]
  have hfz : w.frozen? ⟨b, o, none⟩ = false := by
    simp only [World.frozen?, h]
    exact hf o ho
  simp [hc, hfz]

/-- l with the places from o on overwritten by vs -/
def putAt (l : List Value) (o : Nat) : List Value → List Value
  | [] => l
  | v :: r => putAt (l.set o v) (o + 1) r

theorem putAt_length : ∀ (vs l : List Value) (o : Nat), (putAt l o vs).length = l.length
  | [], _, _ => rfl
  | v :: r, l, o => by simp [putAt, putAt_length r]

theorem putAt_eq : ∀ (vs l : List Value) (o : Nat), o + vs.length ≤ l.length → putAt l o vs = l.take o ++ vs ++ l.drop (o + vs.length)
  | [], l, o, _ => by simp [putAt]
  | v :: r, l, o, h => by
    simp only [List.length_cons] at h
    rw [putAt, putAt_eq r _ _ (by simp; omega)]
    have e : l.set o v = l.take o ++ (v :: l.drop (o + 1)) := by
      rw [List.set_eq_take_append_cons_drop, if_pos (by omega)]
    have hl : (l.take o).length = o := by simp; omega
    have e1 : (l.set o v).take (o + 1) = l.take o ++ [v] := by
      rw [e, List.take_append, hl, Nat.add_sub_cancel_left]
      simp [List.take_take]
    have e2 : (l.set o v).drop (o + 1 + r.length) = l.drop (o + (v :: r).length) := by
      rw [e, List.drop_append, hl, List.drop_eq_nil_of_le (by omega), show o + 1 + r.length - o = r.length + 1 by omega]
      simp
      congr 1
      omega
    rw [e1, e2]
    simp

theorem run_storeCells_own (b T : Nat) (fr : Nat × Nat) : ∀ (vs : List Value) (c : List Value) (o i : Nat) (w : World), w.heap[b]? = some (.cells c.toArray T fr) → o + i + vs.length ≤ c.length → soft fr c.length → (∀ u ∈ vs, u.oneCell' = true) →
    ∃ w', (storeCells ⟨b, o, none⟩ vs i).run P w = .ok () w' ∧ w'.heap[b]? = some (.cells (putAt c (o + i) vs).toArray T fr) ∧ (∀ b', b' ≠ b → w'.heap[b']? = w.heap[b']?) ∧ w'.heap.size = w.heap.size ∧ w'.os = w.os ∧ w'.tape = w.tape ∧ w'.output = w.output
  | [], c, o, i, w, h, _, _, _ => ⟨w, by simp [storeCells], h, fun _ _ => rfl, rfl, rfl, rfl, rfl⟩
  | v :: r, c, o, i, w, h, hlen, hf, h1 => by
    simp only [List.length_cons] at hlen
    have hs := run_store1 (P := P) (o := o + i) (u := v) h (by omega) hf (h1 v (by simp))
    obtain ⟨w', e1, e2, e3, e4, e5, e6, e7⟩ := run_storeCells_own b T fr r (c.set (o + i) v) o (i + 1) (w.setCell ⟨b, o + i, none⟩ v) (heap_setCell_at h) (by simp; omega) (by simpa using hf) (fun u hu => h1 u (by simp [hu]))
    refine ⟨w', ?_, ?_, fun b' hb' => ?_, by rw [e4]; simp, e5, e6, e7⟩
    · simp only [storeCells, Sem.run_bind, add_off, hs, Result.andThen_ok]; exact e1
    · rw [e2]; rfl
    · rw [e3 b' hb', heap_setCell (by simpa using Ne.symm hb')]

/-- a store into the front heaplet's block -/
theorem lo_store {v : Value} {b o T k bb : Nat} {z : Value} {fr : Nat × Nat} {c : List Value} {rest : List Hl} (hH : HS M w0 w ([(b, Obj.cells c.toArray T fr)] :: rest)) (he : TI P t k bb z)
    (hx : E.ev x = some (.pointer (some ⟨b, o, none⟩))) (hy : E.ev y = some v) (hk : v.cells.size = k) (ho : o + k ≤ c.length) (hf : soft fr c.length) (h1 : ∀ u ∈ v.cells.toList, u.oneCell' = true) :
    Lo P E (.store t x y) ty w (fun _ w' => HS M w0 w' ([(b, Obj.cells (putAt c o v.cells.toList).toArray T fr)] :: rest)) := by
  intro a dst pos af g K Q ha hK
  have hb : w.heap[b]? = some (.cells c.toArray T fr) := hH.has [(b, Obj.cells c.toArray T fr)] List.mem_cons_self (b, _) (List.mem_singleton.2 rfl)
  obtain ⟨w', e1, e2, e3, e4, e5, e6, e7⟩ := run_storeCells_own (P := P) b T fr v.cells.toList c o 0 w hb (by simp; omega) hf h1
  simp [Oper.wp, execOp, ha _ _ hx, ha _ _ hy, Instr.storeAt, Instr.sureAddr, storeVar, he.size, hk, e1, Oper.upon]
  refine hK undef w' (HS.turn hH e5 e6 e7 e4 (fun b' hb' => e3 b' fun e => hb' (b, _) (List.mem_singleton.2 rfl) e.symm) rfl fun p hp => ?_)
  simp at hp
  subst hp
  simpa using e2
end
end Go.Proofs.YthhdilafnfcpbaaDoor
/- append, copy, slicing, make, strings turned to bytes; calls. -/
namespace Go.Proofs.YthhdilafnfcpbaaDoor
open Go
set_option linter.unusedVariables false
set_option linter.unusedSimpArgs false

/-- what append and copy read -/
structure Src (P : Program) (w : World) (x : Value) (k m : Nat) (news : List Value) : Prop where
  len : news.length = m * k
  lenOf : ∀ w, (Builtin.lenOf x).run P w = .ok m w
  cells : (Builtin.firstCells k m x).run P w = .ok news.toArray w
  cells' : (Builtin.firstCells k m x).run P w.drew = .ok news.toArray w.drew

theorem Rd.firstCells {P w v n k cs} (h : Rd [] w v n k cs) (m : Nat) (hm : m ≤ n) : (Builtin.firstCells k m v).run P w = .ok (cs.take (m * k)).toArray w := by
  have hl := h.len
  have hmk : m * k ≤ n * k := Nat.mul_le_mul_right k hm
  have hat := fun j => h.at (j := j)
  obtain ⟨h1, a, cap, rfl, h3, h4, h5⟩ := h
  cases a with
  | none =>
    obtain rfl := (h4 rfl).1
    simp [Builtin.firstCells, show m = 0 by omega]
  | some ad =>
    refine run_firstCells_some w k m ad n cap _ (by simp; omega) fun j u hu => ?_
    rw [List.getElem?_take] at hu
    split at hu
    · rename_i hj
      have hn0 : 0 < n := Nat.pos_of_ne_zero fun h => by subst h; omega
      obtain ⟨h6, _⟩ := h5 ad rfl (by omega)
      obtain ⟨b, o, s⟩ := ad
      simp only at h6
      subst h6
      have := hat j (by omega)
      rw [hu] at this
      rw [← this, add_off]
      rfl
    · cases hu

theorem Rd.src {P w v n k cs} (h : Rd [] w v n k cs) : Src P w v k n cs := by
  have hl := h.len
  have e : cs.take (n * k) = cs := List.take_of_length_le (by omega)
  refine ⟨hl, fun w => ?_, ?_, ?_⟩
  · obtain ⟨h1, a, cap, rfl, _⟩ := h
    simp [Builtin.lenOf]
  · rw [h.firstCells n (Nat.le_refl _), e]
  · rw [Rd.firstCells (w := w.drew) (h.heap fun _ _ _ => rfl) n (Nat.le_refl _), e]

/-- a string's bytes -/
def sBytes (s : ByteArray) : List (BitVec 8) := s.data.toList.map UInt8.toBitVec
theorem one_B8 (l : List (BitVec 8)) : ∀ u ∈ l.map B8, u.oneCell' = true := by
  intro u hu; obtain ⟨x, _, rfl⟩ := List.mem_map.1 hu; rfl
theorem one_U32 (l : List (BitVec 32)) : ∀ u ∈ l.map U32, u.oneCell' = true := by
  intro u hu; obtain ⟨x, _, rfl⟩ := List.mem_map.1 hu; rfl

theorem zeroCells_size (z : Array Value) (n : Nat) : (Builtin.zeroCells z n).size = n * z.size := by simp [Builtin.zeroCells]

section
variable {P : Program} {E : Env} {ty t t' : TypeId} {w : World} {x y : Operand} {M : List Nat} {w0 : World} {Hs : List Hl}

theorem Own.fresh {e k n : Nat} {cs sp : List Value} {w : World} (hl : cs.length = n * k) {cap : Nat} (hc : n ≤ cap) (hsp : (cap - n) * k ≤ sp.length) :
    Own e k (.slice (some ⟨w.heap.size, 0, none⟩) n cap) n cs [(w.heap.size, .cells (cs ++ sp).toArray e (0, 0))] :=
  ⟨hl, .inr ⟨w.heap.size, 0, cap, [], sp, (0, 0), rfl, by simp, rfl, hc, hsp, soft0 _⟩⟩

theorem run_append {e k bb : Nat} {z : Value} {v : Value} {n : Nat} {cs : List Value} {N : Hl} {xv : Value} {m : Nat} {news : List Value} {d : TypeDesc}
    (ht : P.underlying t = some (.slice e)) (ht' : P.underlying t' = some d) (hd : d = .slice e ∨ d = .string)
    (he : TI P e k bb z) (hz : z.cells.size = k)
    (hown : Own e k v n cs N) (hN : HS (doms [N]) w w [N]) (hs : Src P w xv k m news) (h1 : ∀ u ∈ news, u.oneCell' = true)
    (hb : (n + m) * bb ≤ 140737488355328) (hn : n + m ≤ 9223372036854775807) :
    ∃ v' w' N', (Builtin.append_ #[t, t'] ty #[v, xv]).run P w = .ok v' w' ∧ Own e k v' (n + m) (cs ++ news) N' ∧ HS (doms [N]) w w' [N'] ∧
      (v' = .slice none 0 0 ↔ v = .slice none 0 0 ∧ m = 0) := by
  have hlen : (cs ++ news).length = (n + m) * k := by rw [List.length_append, hown.1, hs.len, Nat.add_mul]
  obtain ⟨i, hi, hik, hib, hiz⟩ := he
  -- a new array
  have grow : ∀ cap, cap < n + m → (∃ a, v = .slice a n cap) → (Builtin.firstCells k n v).run P w.drew = .ok cs.toArray w.drew → v ≠ .slice none 0 0 ∨ m ≠ 0 →
      ∃ v' w' N', (Builtin.append_ #[t, t'] ty #[v, xv]).run P w = .ok v' w' ∧ Own e k v' (n + m) (cs ++ news) N' ∧ HS (doms [N]) w w' [N'] ∧
        (v' = .slice none 0 0 ↔ v = .slice none 0 0 ∧ m = 0) := by
    intro cap hcap ⟨a, hv⟩ hold hne
    have hfit := growslice_fits (bytes := bb) hcap hb
    subst hv
    have hge : n + m ≤ grownCap w (n + m) cap e := grownCap_ge w (n + m) cap e
    refine ⟨.slice (some ⟨w.heap.size, 0, none⟩) (n + m) (grownCap w (n + m) cap e),
      w.drew.alloc (.cells ((cs ++ news) ++ (Builtin.zeroCells z.cells (grownCap w (n + m) cap e - (n + m))).toList).toArray e),
      [(w.heap.size, .cells ((cs ++ news) ++ (Builtin.zeroCells z.cells (grownCap w (n + m) cap e - (n + m))).toList).toArray e (0, 0))], ?_, ?_, ?_, ?_⟩
    · have hc' := hs.cells'
      have e1 : ¬ n + m ≤ cap := by omega
      have e2 : ¬ 281474976710656 < Builtin.nextslicecap (n + m) cap * bb := by omega
      have e3 : ¬ (9223372036854775807 : Int) < (n : Int) + m := by omega
      rcases hd with rfl | rfl
      all_goals simp [Builtin.append_, run_underlying ht, run_underlying ht', sizeOf, typeInfo, zeroValue, hi, hik, hib, hiz, hs.lenOf, e1, e2, e3, hold, hc', newRow, Question.forced, grownCap, IntKind.max, IntKind.bits, IntKind.signed]
      all_goals (congr 2; apply Array.ext'; simp)
    · exact Own.fresh (w := w) hlen hge (by simp [zeroCells_size, hz])
    · have := (HS.alloc (HS.drew hN) (.cells ((cs ++ news) ++ (Builtin.zeroCells z.cells (grownCap w (n + m) cap e - (n + m))).toList).toArray e)).pick [0] rfl
      exact this
    · constructor
      · intro h; cases h
      · rintro ⟨h, hm⟩
        cases h
        rcases hne with h | h
        · exact absurd rfl h
        · exact absurd hm h
  rcases hown.2 with ⟨rfl, rfl, rfl⟩ | ⟨b, off, cap, pre, sp, fr, rfl, rfl, hoff, hcap, hsp, hfr⟩
  · have hcs : cs = [] := List.eq_nil_of_length_eq_zero (by simpa using hown.1)
    subst hcs
    by_cases hm : m = 0
    · subst hm
      have hnn : news = [] := List.eq_nil_of_length_eq_zero (by simpa using hs.len)
      subst hnn
      refine ⟨.slice none 0 0, w, [], ?_, ⟨by simp, .inl ⟨rfl, rfl, rfl⟩⟩, ?_, by simp⟩
      · have hc' := hs.cells
        rcases hd with rfl | rfl
        all_goals simp [Builtin.append_, run_underlying ht, run_underlying ht', sizeOf, typeInfo, hi, hik, hs.lenOf, hc']
      · exact hN
    · exact grow 0 (by omega) ⟨none, rfl⟩ (by simp [Builtin.firstCells]) (.inr hm)
  · by_cases hroom : n + m ≤ cap
    · have hb : w.heap[b]? = some (.cells (pre ++ cs ++ sp).toArray e fr) := hN.has [(b, .cells (pre ++ cs ++ sp).toArray e fr)] List.mem_cons_self (b, _) (List.mem_singleton.2 rfl)
      have hl1 := hown.1
      have hnk : (n + m) * k = n * k + m * k := Nat.add_mul _ _ _
      have hmk : m * k ≤ (cap - n) * k := Nat.mul_le_mul_right k (by omega)
      have hsl := hs.len
      have hfit : off + n * k + 0 + news.length ≤ (pre ++ cs ++ sp).length := by simp; omega
      obtain ⟨w', e1, e2, e3, e4, e5, e6, e7⟩ := run_storeCells_own (P := P) b e fr news (pre ++ cs ++ sp) (off + n * k) 0 w hb hfit hfr h1
      have e8 : putAt (pre ++ cs ++ sp) (off + n * k + 0) news = pre ++ (cs ++ news) ++ sp.drop (m * k) := by
        rw [putAt_eq _ _ _ hfit]
        have hpc : (pre ++ cs).length = off + n * k := by simp; omega
        have t1 : (pre ++ cs ++ sp).take (off + n * k + 0) = pre ++ cs := by
          rw [Nat.add_zero, ← hpc, List.take_left]
        have t2 : (pre ++ cs ++ sp).drop (off + n * k + 0 + news.length) = sp.drop (m * k) := by
          rw [List.drop_append, hpc, List.drop_eq_nil_of_le (by omega)]
          simp [hsl]
        rw [t1, t2]
        simp
      rw [e8] at e2
      refine ⟨.slice (some ⟨b, off, none⟩) (n + m) cap, w', [(b, .cells (pre ++ (cs ++ news) ++ sp.drop (m * k)).toArray e fr)], ?_, ?_, ?_, by simp⟩
      · have hc' := hs.cells
        rcases hd with rfl | rfl
        all_goals simp [Builtin.append_, run_underlying ht, run_underlying ht', sizeOf, typeInfo, hi, hik, hs.lenOf, hc', hroom, add_off, e1]
      · refine ⟨hlen, .inr ⟨b, off, cap, pre, sp.drop (m * k), fr, rfl, rfl, hoff, hroom, ?_, ?_⟩⟩
        · have : (cap - n) * k = (cap - (n + m)) * k + m * k := by rw [← Nat.add_mul]; congr 1; omega
          simp; omega
        · have : (pre ++ (cs ++ news) ++ sp.drop (m * k)).length = (pre ++ cs ++ sp).length := by simp; omega
          rw [this]; exact hfr
      · have := HS.turn (M := doms [[(b, Obj.cells (pre ++ cs ++ sp).toArray e fr)]]) (w0 := w) (N' := [(b, Obj.cells (pre ++ (cs ++ news) ++ sp.drop (m * k)).toArray e fr)]) hN e5 e6 e7 e4 (fun b' hb' => e3 b' fun e => hb' (b, _) (List.mem_singleton.2 rfl) e.symm) rfl (fun p hp => by
          obtain rfl := List.mem_singleton.1 hp
          exact e2)
        exact this
    · refine grow cap (by omega) ⟨_, rfl⟩ ?_ (.inl (by simp))
      have hr := hown.rd (HS.drew hN) List.mem_cons_self [] (by simp)
      have := hr.firstCells (P := P) n (Nat.le_refl _)
      rw [this, List.take_of_length_le (by have := hown.1; omega)]

/-- append to a slice of one's own, whose memory stands in front -/
theorem lo_append {e k bb : Nat} {z : Value} {v : Value} {n : Nat} {cs : List Value} {N : Hl} {rest : List Hl} {xv : Value} {m : Nat} {news : List Value} {d : TypeDesc}
    (hH : HS M w0 w (N :: rest)) (ht : P.underlying t = some (.slice e)) (ht' : P.underlying t' = some d) (hd : d = .slice e ∨ d = .string)
    (he : TI P e k bb z) (hz : z.cells.size = k) (hx : E.ev x = some v) (hy : E.ev y = some xv)
    (hown : Own e k v n cs N) (hs : Src P w xv k m news) (h1 : ∀ u ∈ news, u.oneCell' = true)
    (hb : (n + m) * bb ≤ 140737488355328) (hn : n + m ≤ 9223372036854775807) :
    Lo P E (.call ⟨.builtin .append, #[x, y], #[t, t']⟩) ty w (fun v' w' => ∃ N', Own e k v' (n + m) (cs ++ news) N' ∧ HS M w0 w' (N' :: rest)) := by
  intro a dst pos af g K Q ha hK
  obtain ⟨v', w', N', e1, e2, e3, _⟩ := run_append (ty := ty) ht ht' hd he hz hown (HS.handed (Ns1 := [N]) hH) hs h1 hb hn
  simp only [Oper.wp, execOp, resolve, invoke, builtin, Sem.run_bind, Sem.run_pure, Result.andThen_ok, List.map_toArray, List.map_cons, List.map_nil, ha _ _ hx, ha _ _ hy, e1]
  exact hK v' w' ⟨N', e2, HS.call (Ns1 := [N]) (Ns2 := [N']) hH e3⟩

/-! ### slicing -/
theorem Rd.cut {w v n k cs} (h : Rd M w v n k cs) (lo hi : Nat) (h1 : lo ≤ hi) (h2 : hi ≤ n) :
    ∃ v', (∀ a c, v = .slice a n c → v' = .slice (if c = lo then a else a.map (·.add (lo * k))) (hi - lo) (c - lo)) ∧ Rd M w v' (hi - lo) k ((cs.drop (lo * k)).take ((hi - lo) * k)) := by
  obtain ⟨e1, a, cap, rfl, e3, e4, e5⟩ := h
  have hk1 : lo * k ≤ hi * k := Nat.mul_le_mul_right k h1
  have hk2 : hi * k ≤ n * k := Nat.mul_le_mul_right k h2
  have hk3 : (hi - lo) * k = hi * k - lo * k := Nat.sub_mul _ _ _
  refine ⟨.slice (if cap = lo then a else a.map (·.add (lo * k))) (hi - lo) (cap - lo), fun a' c' he => by cases he; rfl, ?_, _, _, rfl, by omega, ?_, ?_⟩
  · simp; omega
  · intro ha
    split at ha
    · have := e4 ha; omega
    · have := e4 (by simpa using ha); omega
  · intro ad had hc0
    cases a with
    | none => split at had <;> cases had
    | some a0 =>
      obtain ⟨f1, f2, arr, E0, fr, f3, f4, f5⟩ := e5 a0 rfl (by omega)
      obtain ⟨b, o, s⟩ := a0
      simp only at f1 f2 f3 f4 f5
      subst f1
      have hcap : lo * k ≤ cap * k := Nat.mul_le_mul_right k (by omega)
      have hcs : (cap - lo) * k = cap * k - lo * k := Nat.sub_mul _ _ _
      by_cases hc : cap = lo
      · rw [if_pos hc] at had
        cases had
        refine ⟨rfl, f2, arr, E0, fr, f3, by simp only; omega, fun i hi' => ?_⟩
        rw [show hi - lo = 0 by omega] at hi'
        omega
      · rw [if_neg hc] at had
        simp only [Option.map_some, Option.some.injEq, add_off] at had
        subst had
        refine ⟨rfl, f2, arr, E0, fr, f3, by simp only; omega, fun i hi' => ?_⟩
        simp only [List.getElem?_take, List.getElem?_drop, hi', if_true]
        rw [Nat.add_assoc]
        exact f5 _ (by omega)

/-- a bound of a slice expression: none, or a number at hand -/
def bnd (E : Env) : Option Operand → Nat → Option Int
  | none, d => some d
  | some x, _ => match E.ev x with
    | some (.int _ n) => some n
    | _ => none

theorem bnd_run {ρ : Operand → Value} (hρ : ∀ x u, E.ev x = some u → ρ x = u) {o : Option Operand} {d n : Nat} {m : Int} (h : bnd E o d = some m) (hn : m = n) {cap : Nat} (hc : n ≤ cap) (code : BoundsCode) (w : World) :
    (match o.map ρ with | some v => Instr.sliceBound v cap code | none => pure d : Sem Nat).run P w = .ok n w := by
  cases o with
  | none =>
    obtain rfl : d = n := by simp [bnd] at h; omega
    rfl
  | some x =>
    simp only [bnd] at h
    split at h
    · rename_i kk n' hx
      cases h
      simp only [Option.map_some, hρ _ _ hx, Instr.sliceBound, asIntOf]
      simp [hn, hc]
    · cases h

theorem run_sliceBounds {ρ : Operand → Value} (hρ : ∀ x u, E.ev x = some u → ρ x = u) {isSlice : Bool} {lo hi : Option Operand} {len cap l h : Nat} {ml mh : Int}
    (hl : bnd E lo 0 = some ml) (hh : bnd E hi len = some mh) (el : ml = l) (eh : mh = h) (h1 : l ≤ h) (h2 : h ≤ cap) (w : World) :
    (Instr.sliceBounds isSlice len cap (lo.map ρ) (hi.map ρ) none).run P w = .ok (l, h, cap) w := by
  have a1 := fun code => bnd_run (P := P) hρ hl el h1 code w
  have a2 := fun code => bnd_run (P := P) hρ hh eh h2 code w
  cases lo with
  | none =>
    cases hi with
    | none =>
      have b1 := a1 .index
      have b2 := a2 .index
      simp at b1 b2
      simp [Instr.sliceBounds, b1, b2]
    | some y =>
      have b1 := a1 .index
      have b2 := a2 (if isSlice then .sliceAcap else .sliceAlen)
      simp at b1 b2
      simp [Instr.sliceBounds, b1, b2]
  | some x =>
    cases hi with
    | none =>
      have b1 := a1 .sliceB
      have b2 := a2 .index
      simp at b1 b2
      simp [Instr.sliceBounds, b1, b2]
    | some y =>
      have b1 := a1 .sliceB
      have b2 := a2 (if isSlice then .sliceAcap else .sliceAlen)
      simp at b1 b2
      simp [Instr.sliceBounds, b1, b2]

/-- x[lo:hi] of a slice that is read -/
theorem q_slice {e k bb : Nat} {z : Value} {v : Value} {n : Nat} {lo hi : Option Operand} {ml mh : Int} (hT : P.underlying t = some (.slice e)) (he : TI P e k bb z) (hx : E.ev x = some v)
    {v' : Value} (l h : Nat) (hv' : ∀ a c, v = .slice a n c → v' = .slice (if c = l then a else a.map (·.add (l * k))) (h - l) (c - l)) (hr : Shp v n)
    (hl : bnd E lo 0 = some ml) (hh : bnd E hi n = some mh) (el : ml = l) (eh : mh = h) (h1 : l ≤ h) (h2 : h ≤ n) :
    Runs P E (.slice t x lo hi none) ty w v' := by
  intro ρ dst pos af g hρ
  obtain ⟨a, cap, rfl, e3, _⟩ := hr
  rw [hv' a cap rfl]
  have := run_sliceBounds (P := P) (isSlice := true) (cap := cap) hρ hl hh el eh h1 (by omega) w
  simp [execOp, hρ _ _ hx, Instr.sliceAt, Instr.slice, run_underlying hT, this, he.size]

/-- b[lo:hi] of an array's address -/
theorem q_sliceA {e k bb len : Nat} {z : Value} {b o : Nat} {lo hi : Option Operand} {ml mh : Int} (hT : P.underlying t = some (.array len e)) (he : TI P e k bb z) (hx : E.ev x = some (.pointer (some ⟨b, o, none⟩)))
    (l h : Nat) (hl : bnd E lo 0 = some ml) (hh : bnd E hi len = some mh) (el : ml = l) (eh : mh = h) (h1 : l ≤ h) (h2 : h ≤ len) :
    Runs P E (.slice t x lo hi none) ty w (.slice (some (if len = l then ⟨b, o, none⟩ else ⟨b, o + l * k, none⟩)) (h - l) (len - l)) := by
  intro ρ dst pos af g hρ
  have := run_sliceBounds (P := P) (isSlice := false) (cap := len) hρ hl hh el eh h1 (by omega) w
  simp only [execOp, hρ _ _ hx, Instr.sliceAt]
  simp [run_underlying hT, Instr.sureAddr, this, he.size, add_off]
end
end Go.Proofs.YthhdilafnfcpbaaDoor
/- Calls, function values, equal arrays, copy, make, strings turned to bytes, results; the kinds of whole numbers, each by its name. -/
namespace Go.Proofs.YthhdilafnfcpbaaDoor
open Go
set_option linter.unusedVariables false
set_option linter.unusedSimpArgs false

/-- a call returns, and what it returns and leaves is Post -/
def Ret (Post : Value → World → Prop) (e : Ending) (w : World) : Prop := ∃ v, e = .returned v ∧ Post v w

/-- a function with a text -/
def FnOk (P : Program) (f : FuncId) : Prop := ∃ fn, P.funcs[f]? = some fn ∧ (fn.name == "runtime.NumGoroutine") = false ∧ fn.body.isNone = false

def evl (E : Env) : List Operand → Option (List Value)
  | [] => some []
  | x :: r => match E.ev x, evl E r with
    | some v, some l => some (v :: l)
    | _, _ => none

theorem evl_map {E : Env} {ρ : Operand → Value} (hρ : ∀ x u, E.ev x = some u → ρ x = u) : ∀ {l : List Operand} {l' : List Value}, evl E l = some l' → l.map ρ = l'
  | [], l', h => by simp [evl] at h; simp [h]
  | x :: r, l', h => by
    unfold evl at h
    split at h
    · rename_i v l hv hl
      cases h
      simp [hρ _ _ hv, evl_map hρ hl]
    · cases h

section
variable {P : Program} {E : Env} {ty t t' : TypeId} {w : World} {x y : Operand} {M : List Nat} {w0 : World} {Hs : List Hl}

theorem lo_callv {f : FuncId} {first cap vs : List Value} {as : List Operand} {ats : Array TypeId} {Post : Value → World → Prop} (hf : FnOk P f) (hx : E.ev x = some (.func (.func f) first.toArray cap.toArray))
    (has : evl E as = some vs) (hc : Calls P f (first ++ vs ++ cap).toArray w (Ret Post)) : Lo P E (.call ⟨.value x, as.toArray, ats⟩) ty w Post := by
  intro a dst pos af g K Q ha hK
  obtain ⟨fn, h1, h2, h3⟩ := hf
  have h2' : ¬ fn.name = "runtime.NumGoroutine" := by simpa using h2
  have h3' : ¬ fn.body = none := fun e => by simp [e] at h3
  have h4 := evl_map ha has
  unfold Oper.wp
  have hr : (execOp a.eval ⟨dst, .call ⟨.value x, as.toArray, ats⟩, ty, pos, af, g⟩).run P w = .ok (.enter f (first ++ vs ++ cap).toArray) w := by
    simp [execOp, resolve, ha _ _ hx, Deferred.ofValue, invoke, callFunc, h1, h2', h3', h4, Sem.run_bind]
  rw [hr, Oper.upon_enter]
  refine hc.mono fun e w' he => ?_
  obtain ⟨v, rfl, hp⟩ := he
  exact hK v w' hp

theorem lo_call {f : FuncId} {vs : List Value} {as : List Operand} {ats : Array TypeId} {Post : Value → World → Prop} (hf : FnOk P f)
    (has : evl E as = some vs) (hc : Calls P f vs.toArray w (Ret Post)) : Lo P E (.call ⟨.value (.func f), as.toArray, ats⟩) ty w Post :=
  lo_callv (first := []) (cap := []) hf rfl has (by simpa using hc)

theorem q_makeFunc {fn : Fn} {fs cs : List Operand} {vs us : List Value} (hf : evl E fs = some vs) (hc : evl E cs = some us) : Runs P E (.makeFunc fn fs.toArray cs.toArray) ty w (.func fn vs.toArray us.toArray) := by
  intro ρ dst pos af g hρ
  simp [execOp, Instr.makeFunc, evl_map hρ hf, evl_map hρ hc]

/-! ### equal arrays -/
/-! bools -/
/-! pointers against nil -/
theorem run_ptrNil {e : TypeId} (hT : P.underlying t = some (.pointer e)) (d : Nat) (a : Addr) : (Op.equalIn (d + 1) t (.pointer (some a)) (.pointer none)).run P w = .ok false w := by simp [Op.equalIn, run_underlying hT]
theorem q_ptrNil {e : TypeId} {a : Addr} (hT : P.underlying t = some (.pointer e)) (hx : E.ev x = some (.pointer (some a))) (hy : E.ev y = some (.pointer none)) : Runs P E (.binOp .eql t x y t') ty w (.bool false) := by
  intro ρ dst pos af g hρ
  have h := run_ptrNil (w := w) hT 9999 a
  simp [execOp, hρ _ _ hx, hρ _ _ hy, eqGuard, binOp, Op.equal, Op.maxDepth, h]
/-! ### a string turned to bytes -/
/-! ### make -/
theorem lo_make {e k bb : Nat} {z : Value} {kl kc : IntKind} {n : Nat} {m : Int} (hH : HS M w0 w Hs) (ht : P.underlying t = some (.slice e)) (he : TI P e k bb z) (hz : z.cells.size = k)
    (hx : E.ev x = some (.int kl m)) (hy : E.ev y = some (.int kc m)) (hm : m = n) (hb : bb * n ≤ 281474976710656) (hn : n ≤ 9223372036854775807) :
    Lo P E (.makeSlice t x y) ty w (fun v w' => ∃ N, Own e k v n (List.replicate n z.cells.toList).flatten N ∧ HS M w0 w' (N :: Hs)) := by
  intro a dst pos af g K Q ha hK
  obtain ⟨i, hi, hik, hib, hiz⟩ := he
  subst hm
  have hb' : (i.bytes : Int) * (n : Int) ≤ 281474976710656 := by
    have h : ((i.bytes * n : Nat) : Int) ≤ 281474976710656 := by rw [hib]; omega
    rwa [Int.natCast_mul] at h
  have hr := run_make (P := P) w t e i z ht hi hiz kl kc n n (by omega) (Int.le_refl _) hb' (by omega)
  simp only [Oper.wp, execOp, ha _ _ hx, ha _ _ hy, Sem.run_bind, hr, Result.andThen_ok, Sem.run_pure, Oper.upon_value, Int.toNat_natCast, hik]
  have hcells : madeCells z.cells (n * k) = (List.replicate n z.cells.toList).flatten.toArray := by
    apply Array.ext'
    apply List.ext_getElem?
    intro j
    subst hz
    have hfl : ∀ (n j : Nat) (l : List Value), (List.replicate n l).flatten[j]? = if j < n * l.length then l[j % l.length]? else none := by
      intro n
      induction n with
      | zero => simp
      | succ n ih =>
        intro j l
        rw [List.replicate_succ, List.flatten_cons, List.getElem?_append]
        rcases Nat.eq_zero_or_pos l.length with h0 | h0
        · have : l = [] := List.eq_nil_of_length_eq_zero h0
          subst this; simp
        · by_cases h1 : j < l.length
          · rw [if_pos h1, Nat.mod_eq_of_lt h1, if_pos (by rw [Nat.add_mul]; omega)]
          · rw [if_neg h1, ih, Nat.add_mul, Nat.one_mul]
            rw [show (j - l.length) % l.length = j % l.length by rw [← Nat.mod_eq_sub_mod (by omega)]]
            by_cases h2 : j - l.length < n * l.length
            · rw [if_pos h2, if_pos (by omega)]
            · rw [if_neg h2, if_neg (by omega)]
    simp only [List.toList_toArray, hfl]
    by_cases hj : j < n * z.cells.size
    · rw [if_pos (by simpa using hj)]
      have hp : 0 < z.cells.size := by rcases Nat.eq_zero_or_pos z.cells.size with h | h; · rw [h] at hj; omega
                                       · exact h
      have hlt := Nat.mod_lt j hp
      simp [madeCells, hj, hlt]
    · rw [if_neg (by simpa using hj)]
      simp [madeCells]; omega
  rw [hcells]
  refine hK _ _ ⟨_, ⟨by simp [List.length_flatten, hz, List.map_replicate, List.sum_replicate_nat], .inr ⟨w.heap.size, 0, n, [], [], (0, 0), rfl, rfl, rfl, Nat.le_refl _, by simp, soft0 _⟩⟩, ?_⟩
  have := hH.alloc (.cells (List.replicate n z.cells.toList).flatten.toArray e)
  simpa using this

/-! ### copy onto an array of one's own, from its begin -/
end
end Go.Proofs.YthhdilafnfcpbaaDoor
/- The operations by the kinds of their numbers; loads and stores of cells that are alike; the moves of a walk. -/
namespace Go.Proofs.YthhdilafnfcpbaaDoor
open Go
set_option linter.unusedVariables false
set_option linter.unusedSimpArgs false

section
variable {P : Program} {E : Env} {ty t t' : TypeId} {w : World} {x y : Operand} {M : List Nat} {w0 : World} {Hs : List Hl}

section
variable {p q : BitVec 8}
theorem q_xor8 (hx : E.ev x = some (B8 p)) (hy : E.ev y = some (B8 q)) : Runs P E (.binOp .xor t x y t') ty w (B8 (p ^^^ q)) := q_xorU (k := .u8) rfl hx hy
theorem q_eql8 (hx : E.ev x = some (B8 p)) (hy : E.ev y = some (B8 q)) : Runs P E (.binOp .eql t x y t') ty w (.bool (decide (p = q))) := q_eqlU (k := .u8) hx hy
theorem q_neq8 (hx : E.ev x = some (B8 p)) (hy : E.ev y = some (B8 q)) : Runs P E (.binOp .neq t x y t') ty w (.bool (decide (p ≠ q))) := q_neqU (k := .u8) hx hy
theorem q_gtr8 (hx : E.ev x = some (B8 p)) (hy : E.ev y = some (B8 q)) : Runs P E (.binOp .gtr t x y t') ty w (.bool (decide (q.toNat < p.toNat))) := q_gtrU (k := .u8) hx hy
theorem q_cvI8 {m : Int} (hs : P.underlying t = some (.int .i64)) (hd : P.underlying t' = some (.int .u8)) (hx : E.ev x = some (I m)) : Runs P E (.convert t t' x) ty w (B8 (BitVec.ofInt 8 m)) := by
  have e : IntKind.wrap .u8 m = ((BitVec.ofInt 8 m).toNat : Int) := by
    rw [wrapU _ rfl, BitVec.toNat_ofInt]
    have : 0 ≤ m % ((2 ^ 8 : Nat) : Int) := Int.emod_nonneg _ (by decide)
    rw [Int.toNat_of_nonneg this]
    rfl
  have h := q_conv (ty := ty) (w := w) hs hd hx
  rw [e] at h
  exact h
theorem q_cv8_64 (hs : P.underlying t = some (.int .u8)) (hd : P.underlying t' = some (.int .u64)) (hx : E.ev x = some (B8 p)) : Runs P E (.convert t t' x) ty w (U64 (p.setWidth 64)) := by
  have e : IntKind.wrap .u64 (p.toNat : Int) = ((p.setWidth 64).toNat : Int) := by
    rw [wrapU _ rfl, BitVec.toNat_setWidth]
    rfl
  have h := q_conv (ty := ty) (w := w) hs hd hx
  rw [e] at h
  exact h
theorem q_cv8_I (hs : P.underlying t = some (.int .u8)) (hd : P.underlying t' = some (.int .i64)) (hx : E.ev x = some (B8 p)) (hp : p.toNat ≤ 9223372036854775807) : Runs P E (.convert t t' x) ty w (I p.toNat) := by
  have h := q_conv (ty := ty) (w := w) hs hd hx
  rw [wrap_i64 (by omega) (by omega)] at h
  exact h
end
section
variable {p q : BitVec 32}
theorem q_add32 (hx : E.ev x = some (U32 p)) (hy : E.ev y = some (U32 q)) : Runs P E (.binOp .add t x y t') ty w (U32 (p + q)) := q_addU (k := .u32) rfl hx hy
theorem q_and32 (hx : E.ev x = some (U32 p)) (hy : E.ev y = some (U32 q)) : Runs P E (.binOp .and t x y t') ty w (U32 (p &&& q)) := q_andU (k := .u32) rfl hx hy
theorem q_or32 (hx : E.ev x = some (U32 p)) (hy : E.ev y = some (U32 q)) : Runs P E (.binOp .or t x y t') ty w (U32 (p ||| q)) := q_orU (k := .u32) rfl hx hy
theorem q_xor32 (hx : E.ev x = some (U32 p)) (hy : E.ev y = some (U32 q)) : Runs P E (.binOp .xor t x y t') ty w (U32 (p ^^^ q)) := q_xorU (k := .u32) rfl hx hy
theorem q_shr32 {k' : IntKind} {n : Nat} (hx : E.ev x = some (U32 p)) (hy : E.ev y = some (.int k' n)) : Runs P E (.binOp .shr t x y t') ty w (U32 (p >>> n)) := q_shrU (k := .u32) hx hy
theorem q_shl32 {k' : IntKind} {n : Nat} (hx : E.ev x = some (U32 p)) (hy : E.ev y = some (.int k' n)) : Runs P E (.binOp .shl t x y t') ty w (U32 (p <<< n)) := q_shlU (k := .u32) rfl hx hy
theorem q_cv32_8 (hs : P.underlying t = some (.int .u32)) (hd : P.underlying t' = some (.int .u8)) (hx : E.ev x = some (U32 p)) : Runs P E (.convert t t' x) ty w (B8 (p.setWidth 8)) := by
  have e : IntKind.wrap .u8 (p.toNat : Int) = ((p.setWidth 8).toNat : Int) := by
    rw [wrapU _ rfl, BitVec.toNat_setWidth]
    rfl
  have h := q_conv (ty := ty) (w := w) hs hd hx
  rw [e] at h
  exact h
end
section
variable {p q : BitVec 64}
theorem q_sub64 (hx : E.ev x = some (U64 p)) (hy : E.ev y = some (U64 q)) : Runs P E (.binOp .sub t x y t') ty w (U64 (p - q)) := q_subU (k := .u64) rfl hx hy
theorem q_and64 (hx : E.ev x = some (U64 p)) (hy : E.ev y = some (U64 q)) : Runs P E (.binOp .and t x y t') ty w (U64 (p &&& q)) := q_andU (k := .u64) rfl hx hy
theorem q_or64 (hx : E.ev x = some (U64 p)) (hy : E.ev y = some (U64 q)) : Runs P E (.binOp .or t x y t') ty w (U64 (p ||| q)) := q_orU (k := .u64) rfl hx hy
theorem q_neq64 (hx : E.ev x = some (U64 p)) (hy : E.ev y = some (U64 q)) : Runs P E (.binOp .neq t x y t') ty w (.bool (decide (p ≠ q))) := q_neqU (k := .u64) hx hy
theorem q_gtr64 (hx : E.ev x = some (U64 p)) (hy : E.ev y = some (U64 q)) : Runs P E (.binOp .gtr t x y t') ty w (.bool (decide (q.toNat < p.toNat))) := q_gtrU (k := .u64) hx hy
theorem q_shr64 {k' : IntKind} {n : Nat} (hx : E.ev x = some (U64 p)) (hy : E.ev y = some (.int k' n)) : Runs P E (.binOp .shr t x y t') ty w (U64 (p >>> n)) := q_shrU (k := .u64) hx hy
theorem q_shl64 {k' : IntKind} {n : Nat} (hx : E.ev x = some (U64 p)) (hy : E.ev y = some (.int k' n)) : Runs P E (.binOp .shl t x y t') ty w (U64 (p <<< n)) := q_shlU (k := .u64) rfl hx hy
theorem q_cvI64 {m : Int} (hs : P.underlying t = some (.int .i64)) (hd : P.underlying t' = some (.int .u64)) (hx : E.ev x = some (I m)) : Runs P E (.convert t t' x) ty w (U64 (BitVec.ofInt 64 m)) := by
  have e : IntKind.wrap .u64 m = ((BitVec.ofInt 64 m).toNat : Int) := by
    rw [wrapU _ rfl, BitVec.toNat_ofInt]
    have : 0 ≤ m % ((2 ^ 64 : Nat) : Int) := Int.emod_nonneg _ (by decide)
    rw [Int.toNat_of_nonneg this]
    rfl
  have h := q_conv (ty := ty) (w := w) hs hd hx
  rw [e] at h
  exact h
theorem q_cv64_8 (hs : P.underlying t = some (.int .u64)) (hd : P.underlying t' = some (.int .u8)) (hx : E.ev x = some (U64 p)) : Runs P E (.convert t t' x) ty w (B8 (p.setWidth 8)) := by
  have e : IntKind.wrap .u8 (p.toNat : Int) = ((p.setWidth 8).toNat : Int) := by
    rw [wrapU _ rfl, BitVec.toNat_setWidth]
    rfl
  have h := q_conv (ty := ty) (w := w) hs hd hx
  rw [e] at h
  exact h
theorem q_cv64_32 (hs : P.underlying t = some (.int .u64)) (hd : P.underlying t' = some (.int .u32)) (hx : E.ev x = some (U64 p)) : Runs P E (.convert t t' x) ty w (U32 (p.setWidth 32)) := by
  have e : IntKind.wrap .u32 (p.toNat : Int) = ((p.setWidth 32).toNat : Int) := by
    rw [wrapU _ rfl, BitVec.toNat_setWidth]
    rfl
  have h := q_conv (ty := ty) (w := w) hs hd hx
  rw [e] at h
  exact h
theorem q_cv64_I (hs : P.underlying t = some (.int .u64)) (hd : P.underlying t' = some (.int .i64)) (hx : E.ev x = some (U64 p)) (hp : p.toNat ≤ 9223372036854775807) : Runs P E (.convert t t' x) ty w (I p.toNat) := by
  have h := q_conv (ty := ty) (w := w) hs hd hx
  rw [wrap_i64 (by omega) (by omega)] at h
  exact h
end

/-! int, bit by bit -/
theorem q_shrI {m : Int} {k' : IntKind} {n : Nat} (c : Int) (hx : E.ev x = some (I m)) (hy : E.ev y = some (.int k' n)) (hn : n < 64) (hc : (2 : Int) ^ n = c) (h0 : 0 ≤ m) : Runs P E (.binOp .shr t x y t') ty w (I (m / c)) := by
  refine q_shift (.inr rfl) hx hy ?_
  simp only [Op.shift]
  rw [if_neg (by omega)]
  have e : min (n : Int).toNat (IntKind.bits .i64) = n := by simp [IntKind.bits]; omega
  simp only [e, hc]
  have hc0 : 0 ≤ c := by rw [← hc]; exact Int.pow_nonneg (by decide)
  rw [Int.fdiv_eq_ediv_of_nonneg _ hc0]
  rfl
theorem q_shlI {m : Int} {k' : IntKind} {n : Nat} (c : Int) (hx : E.ev x = some (I m)) (hy : E.ev y = some (.int k' n)) (hn : n < 64) (hc : (2 : Int) ^ n = c) (h : -9223372036854775808 ≤ m * c ∧ m * c ≤ 9223372036854775807) : Runs P E (.binOp .shl t x y t') ty w (I (m * c)) := by
  refine q_shift (.inl rfl) hx hy ?_
  simp only [Op.shift]
  rw [if_neg (by omega)]
  have e : min (n : Int).toNat (IntKind.bits .i64) = n := by simp [IntKind.bits]; omega
  simp only [e, hc, wrap_i64 h.1 h.2]
  rfl
theorem wrap_nat {n : Nat} (h : n < 9223372036854775808) : IntKind.i64.wrap (n : Int) = n := wrap_i64 (by omega) (by omega)
theorem ofInt_nat (a : Nat) : BitVec.ofInt 64 (a : Int) = BitVec.ofNat 64 a := by simp [BitVec.ofInt_natCast]
theorem q_andI {a b : Nat} (hx : E.ev x = some (I a)) (hy : E.ev y = some (I b)) (ha : a < 9223372036854775808) (hb : b < 9223372036854775808) : Runs P E (.binOp .and t x y t') ty w (I (a &&& b : Nat)) := by
  refine q_bin hx hy ?_
  have hlt : a &&& b < 9223372036854775808 := Nat.lt_of_le_of_lt Nat.and_le_left ha
  have e : binOp .and t (I a) (I b) = pure (.int .i64 (IntKind.i64.wrap ((BitVec.ofInt 64 (a : Int) &&& BitVec.ofInt 64 (b : Int)).toNat : Int))) := rfl
  rw [e, ofInt_nat, ofInt_nat, BitVec.toNat_and, BitVec.toNat_ofNat, BitVec.toNat_ofNat, Nat.mod_eq_of_lt (by omega), Nat.mod_eq_of_lt (by omega)]
  simp [wrap_nat hlt]
theorem q_orI {a b : Nat} (hx : E.ev x = some (I a)) (hy : E.ev y = some (I b)) (ha : a < 9223372036854775808) (hb : b < 9223372036854775808) : Runs P E (.binOp .or t x y t') ty w (I (a ||| b : Nat)) := by
  refine q_bin hx hy ?_
  have hlt : a ||| b < 2 ^ 63 := Nat.or_lt_two_pow (by omega) (by omega)
  have e : binOp .or t (I a) (I b) = pure (.int .i64 (IntKind.i64.wrap ((BitVec.ofInt 64 (a : Int) ||| BitVec.ofInt 64 (b : Int)).toNat : Int))) := rfl
  rw [e, ofInt_nat, ofInt_nat, BitVec.toNat_or, BitVec.toNat_ofNat, BitVec.toNat_ofNat, Nat.mod_eq_of_lt (by omega), Nat.mod_eq_of_lt (by omega)]
  simp [wrap_nat (n := a ||| b) (by omega)]
theorem q_minI {m n : Int} {a1 a2 : TypeId} (hx : E.ev x = some (I m)) (hy : E.ev y = some (I n)) : Runs P E (.call ⟨.builtin .min, #[x, y], #[a1, a2]⟩) ty w (I (if n < m then n else m)) := by
  intro ρ dst pos af g hρ
  simp [execOp, resolve, invoke, builtin, hρ _ _ hx, hρ _ _ hy, Builtin.min_, Builtin.min2]
theorem q_maxI {m n : Int} {a1 a2 : TypeId} (hx : E.ev x = some (I m)) (hy : E.ev y = some (I n)) : Runs P E (.call ⟨.builtin .max, #[x, y], #[a1, a2]⟩) ty w (I (if m < n then n else m)) := by
  intro ρ dst pos af g hρ
  simp [execOp, resolve, invoke, builtin, hρ _ _ hx, hρ _ _ hy, Builtin.max_, Builtin.max2]

/-! ### places, by natural numbers -/
theorem q_idx1 {e : TypeId} {v : Value} {n bb : Nat} {z : Value} {kk : IntKind} {i : Int} (j : Nat) (hT : P.underlying t = some (.slice e)) (he : TI P e 1 bb z) (hx : E.ev x = some v) (hy : E.ev y = some (.int kk i)) (hj : i = j)
    (hr : Shp v n) (hi : j < n) : Runs P E (.indexAddr t x y) ty w (.pointer (some (v.cellAt j))) := by
  have := q_idx (P := P) (ty := ty) (w := w) hT he hx hy hr (by omega)
  subst hj
  simpa using this
theorem q_idxk {e : TypeId} {v : Value} {n k bb : Nat} {z : Value} {kk : IntKind} {i : Int} (j : Nat) (hT : P.underlying t = some (.slice e)) (he : TI P e k bb z) (hx : E.ev x = some v) (hy : E.ev y = some (.int kk i)) (hj : i = j)
    (hr : Shp v n) (hi : j < n) : Runs P E (.indexAddr t x y) ty w (.pointer (some (v.cellAt (j * k)))) := by
  have := q_idx (P := P) (ty := ty) (w := w) hT he hx hy hr (by omega)
  subst hj
  simpa using this
theorem q_idxA1 {e : TypeId} {len bb : Nat} {z : Value} {kk : IntKind} {i : Int} {b : Nat} (j : Nat) (hT : P.underlying t = some (.array len e)) (he : TI P e 1 bb z) (hx : E.ev x = some (.pointer (some ⟨b, 0, none⟩))) (hy : E.ev y = some (.int kk i)) (hj : i = j)
    (hi : j < len) : Runs P E (.indexAddr t x y) ty w (.pointer (some ⟨b, j, none⟩)) := by
  have := q_idxA (P := P) (ty := ty) (w := w) hT he hx hy (by omega)
  subst hj
  simpa using this
theorem q_fld {fs : Array Field} {f : Field} {i k bb : Nat} {z : Value} {b : Nat} (o : Nat) (hT : P.underlying t = some (.struct fs)) (hf : fs[i]? = some f) (ho : f.offset = o) (he : TI P f.type (k + 1) bb z)
    (hx : E.ev x = some (.pointer (some ⟨b, 0, none⟩))) : Runs P E (.fieldAddr t x i) ty w (.pointer (some ⟨b, o, none⟩)) := by
  have := q_fieldAddr (P := P) (ty := ty) (w := w) hT hf he hx
  rw [ho] at this
  simpa using this

/-! ### cells that are alike -/
section
variable {α : Type} {f : α → Value} {l : List α}
theorem q_loadBm {d : TypeDesc} {b o T : Nat} {fr : Nat × Nat} (d0 : α) (hH : HS M w0 w Hs) (i : Nat) (hi : nth? Hs i = some [(b, Obj.cells (l.map f).toArray T fr)])
    (hT : P.underlying t = some d) (hf : flat d = true) (hx : E.ev x = some (.pointer (some ⟨b, o, none⟩))) (hu : o < l.length) : Runs P E (.load t x) ty w (f (l.getD o d0)) :=
  q_loadB hH i hi (List.mem_singleton.2 rfl) hT hf hx (by simp [hu, List.getD])
theorem q_loadRm {d : TypeDesc} {v : Value} {n j : Nat} (d0 : α) (hT : P.underlying t = some d) (hf : flat d = true) (hx : E.ev x = some (.pointer (some (v.cellAt j))))
    (hr : Rd [] w v n 1 (l.map f)) (hj : j < l.length) : Runs P E (.load t x) ty w (f (l.getD j d0)) :=
  q_loadR hT hf hx hr (by have := hr.len; simp at this; omega) (by simp [hj, List.getD])
theorem q_indexm {e : TypeId} {len bb : Nat} {z : Value} {kk : IntKind} {i : Int} {d : TypeDesc} (d0 : α) (j : Nat) (hT : P.underlying t = some (.array len e)) (he : TI P e 1 bb z) (hd : P.underlying e = some d) (hf : flat d = true)
    (hx : E.ev x = some (.agg (l.map f).toArray)) (hy : E.ev y = some (.int kk i)) (hj : i = j)
    (hi : j < len) (hl : j < l.length) : Runs P E (.index t x y) ty w (f (l.getD j d0)) := by
  subst hj
  exact q_index hT he hd hf hx hy (by omega) (by simp [hl, List.getD])
theorem lo_store1m {b o T bb : Nat} {z : Value} {fr : Nat × Nat} {rest : List Hl} {u : α} (hH : HS M w0 w ([(b, Obj.cells (l.map f).toArray T fr)] :: rest)) (he : TI P t 1 bb z)
    (hx : E.ev x = some (.pointer (some ⟨b, o, none⟩))) (hy : E.ev y = some (f u)) (ho : o < l.length) (h1 : (f u).oneCell' = true) (hf : soft fr (l.map f).length := by exact soft0 _) :
    Lo P E (.store t x y) ty w (fun _ w' => HS M w0 w' ([(b, Obj.cells ((l.set o u).map f).toArray T fr)] :: rest)) := by
  have hc : (f u).cells = #[f u] := by
    cases h : f u <;> first | rfl | (rw [h] at h1; cases h1)
  have := lo_store (ty := ty) hH he hx hy (by rw [hc]; rfl) (by simp; omega) hf (by rw [hc]; simpa using h1)
  rw [hc] at this
  simpa [putAt, List.map_set] using this
theorem lo_storeAm {b T k bb : Nat} {z : Value} {fr : Nat × Nat} {c : List Value} {rest : List Hl} {l' : List Value} (hH : HS M w0 w ([(b, Obj.cells c.toArray T fr)] :: rest)) (he : TI P t k bb z)
    (hx : E.ev x = some (.pointer (some ⟨b, 0, none⟩))) (hy : E.ev y = some (.agg l'.toArray)) (hk : l'.length = k) (hc : c.length = k) (h1 : ∀ u ∈ l', u.oneCell' = true) (hf : soft fr c.length := by exact soft0 _) :
    Lo P E (.store t x y) ty w (fun _ w' => HS M w0 w' ([(b, Obj.cells l'.toArray T fr)] :: rest)) := by
  have := lo_store (ty := ty) hH he hx hy (by simpa [Value.cells] using hk) (by omega) hf (by simpa [Value.cells] using h1)
  simp only [Value.cells] at this
  rw [putAt_eq _ _ _ (by simp; omega)] at this
  have e : c.drop l'.length = [] := List.drop_eq_nil_of_le (by omega)
  simpa [e] using this
end
theorem lo_store1 {b o T bb : Nat} {z : Value} {fr : Nat × Nat} {rest : List Hl} {u : Value} {c : List Value} (hH : HS M w0 w ([(b, Obj.cells c.toArray T fr)] :: rest)) (he : TI P t 1 bb z)
    (hx : E.ev x = some (.pointer (some ⟨b, o, none⟩))) (hy : E.ev y = some u) (ho : o < c.length) (h1 : u.oneCell' = true) (hf : soft fr c.length := by exact soft0 _) :
    Lo P E (.store t x y) ty w (fun _ w' => HS M w0 w' ([(b, Obj.cells (c.set o u).toArray T fr)] :: rest)) := by
  have hc : u.cells = #[u] := by
    cases h : u <;> first | rfl | (rw [h] at h1; cases h1)
  have := lo_store (ty := ty) hH he hx hy (by rw [hc]; rfl) (by omega) hf (by rw [hc]; simpa using h1)
  rw [hc] at this
  simpa [putAt] using this
theorem lo_storeP {b o T k bb : Nat} {z : Value} {fr : Nat × Nat} {c l' : List Value} {rest : List Hl} (hH : HS M w0 w ([(b, Obj.cells c.toArray T fr)] :: rest)) (he : TI P t k bb z)
    (hx : E.ev x = some (.pointer (some ⟨b, o, none⟩))) (hy : E.ev y = some (.agg l'.toArray)) (hk : l'.length = k) (ho : o + k ≤ c.length) (h1 : ∀ u ∈ l', u.oneCell' = true) (hf : soft fr c.length := by exact soft0 _) :
    Lo P E (.store t x y) ty w (fun _ w' => HS M w0 w' ([(b, Obj.cells (putAt c o l').toArray T fr)] :: rest)) := by
  have := lo_store (ty := ty) hH he hx hy (by simpa [Value.cells] using hk) ho hf (by simpa [Value.cells] using h1)
  simpa [Value.cells] using this

theorem lo_allocA {k bb : Nat} {c : List Value} (hH : HS M w0 w Hs) (he : TI P t k bb (.agg c.toArray)) :
    Lo P E (.alloc t) ty w (fun v w' => ∃ b, v = .pointer (some ⟨b, 0, none⟩) ∧ HS M w0 w' ([(b, .cells c.toArray t (0, 0))] :: Hs)) := lo_alloc hH he
theorem lo_alloc1 {bb : Nat} {z : Value} (hH : HS M w0 w Hs) (he : TI P t 1 bb z) (h1 : z.oneCell' = true) :
    Lo P E (.alloc t) ty w (fun v w' => ∃ b, v = .pointer (some ⟨b, 0, none⟩) ∧ HS M w0 w' ([(b, .cells [z].toArray t (0, 0))] :: Hs)) := by
  have hc : z.cells = #[z] := by
    cases h : z <;> first | rfl | (rw [h] at h1; cases h1)
  have := lo_alloc (E := E) (ty := ty) hH he
  rw [hc] at this
  exact this
theorem lo_boxA {c : List Value} (hH : HS M w0 w Hs) (hx : E.ev x = some (.agg c.toArray)) :
    Lo P E (.box t x) ty w (fun v' w' => ∃ b, v' = .pointer (some ⟨b, 0, none⟩) ∧ HS M w0 w' ([(b, .cells c.toArray t (0, 0))] :: Hs)) := lo_box hH hx
theorem lo_box1 {z : Value} (hH : HS M w0 w Hs) (hx : E.ev x = some z) (h1 : z.oneCell' = true) :
    Lo P E (.box t x) ty w (fun v' w' => ∃ b, v' = .pointer (some ⟨b, 0, none⟩) ∧ HS M w0 w' ([(b, .cells [z].toArray t (0, 0))] :: Hs)) := by
  have hc : z.cells = #[z] := by
    cases h : z <;> first | rfl | (rw [h] at h1; cases h1)
  have := lo_box (P := P) (t := t) (ty := ty) hH hx
  rw [hc] at this
  exact this

/-! ### the moves of a walk -/
theorem any_go {id : Nat} {ops : Array Oper} {Q : Exit → Act → World → Prop} {a : Act} (hm : P.follows .mixedOrders = true) (keep : Nat → Bool) (hH : HS M w0 w Hs)
    (h : ∀ w', HS M w0 w' Hs → wpK P .any ops Q (fun w => HS M w0 w Hs) keep ops.size (Array.replicate ops.size false) a w') : (Code.region id ops true).wp P Q a w :=
  any_begin (fun w => HS M w0 w Hs) keep hm (h _ hH.drew)
end
theorem then_exit {K : Act → World → Prop} {Q : Exit → Act → World → Prop} {id : Nat} {a : Act} {w : World} (h : Q (.exit id) a w) : Exit.then K Q (.exit id) a w := h
theorem then_ret {K : Act → World → Prop} {Q : Exit → Act → World → Prop} {a : Act} {w : World} (h : Q .ret a w) : Exit.then K Q .ret a w := h
theorem block_ret {Q : Exit → Act → World → Prop} {id : Nat} {a : Act} {w : World} (h : Q .ret a w) : Exit.inBlock id Q .ret a w := h
theorem block_normal {Q : Exit → Act → World → Prop} {id : Nat} {a : Act} {w : World} (h : Q .normal a w) : Exit.inBlock id Q .normal a w := h
theorem exit_here {id : Nat} {Q : Exit → Act → World → Prop} {a : Act} {w : World} (h : Q .normal a w) : Exit.inBlock id Q (.exit id) a w := by
  simp only [Exit.inBlock, if_true]; exact h
theorem exit_out {id id' : Nat} {Q : Exit → Act → World → Prop} {a : Act} {w : World} (hne : Nat.beq id' id = false) (h : Q (.exit id') a w) : Exit.inBlock id Q (.exit id') a w := by
  have : id' ≠ id := fun e => by subst e; simp at hne
  simp only [Exit.inBlock, if_neg this]; exact h
end Go.Proofs.YthhdilafnfcpbaaDoor
/- Slices of one's own whose elements are alike; pieces of them; whole arrays. -/
namespace Go.Proofs.YthhdilafnfcpbaaDoor
open Go
set_option linter.unusedVariables false
set_option linter.unusedSimpArgs false

theorem flat_replicate {α : Type} (n : Nat) (x : α) : (List.replicate n [x]).flatten = List.replicate n x := by
  induction n with
  | zero => rfl
  | succ n ih => simp [List.replicate_succ, ih]
theorem take_snoc {α : Type} (l : List α) {i : Nat} {d : α} (h : i < l.length) : l.take (i + 1) = l.take i ++ [l.getD i d] := by
  rw [List.take_succ_eq_append_getElem h]
  simp [List.getD, h]

theorem cells_B8 (x : BitVec 8) : (B8 x).cells = #[B8 x] := rfl
/-- a slice of one's own, its elements one cell each -/
abbrev Ow {α : Type} (f : α → Value) (E : Nat) (v : Value) (l : List α) (N : Hl) : Prop := Own E 1 v l.length (l.map f) N
/-- a slice that is read, its elements one cell each -/
abbrev Rm {α : Type} (f : α → Value) (M : List Nat) (w : World) (v : Value) (l : List α) : Prop := Rd M w v l.length 1 (l.map f)

section
variable {P : Program} {E : Env} {ty t t' : TypeId} {w : World} {x y : Operand} {M : List Nat} {w0 : World} {Hs : List Hl}

theorem Own.nil (E k : Nat) : Own E k (.slice none 0 0) 0 [] [] := ⟨by simp, .inl ⟨rfl, rfl, rfl⟩⟩
theorem Ow.nil {α : Type} (f : α → Value) (E : Nat) : Ow f E (.slice none 0 0) [] [] := Own.nil E 1

/-- a slice that nobody has made yet is of one's own, with no memory -/
theorem HS.nilFront (h : HS M w0 w Hs) : HS M w0 w ([] :: Hs) :=
  ⟨h.os, h.tape, h.output, h.size, h.old, fun N hN p hp => by
      rcases List.mem_cons.1 hN with rfl | hN
      · cases hp
      · exact h.has N hN p hp, fun N hN => by
      rcases List.mem_cons.1 hN with rfl | hN
      · simp
      · exact h.nd N hN, List.pairwise_cons.2 ⟨(fun N _ p hp => by cases hp), h.ap⟩, fun N hN p hp => by
      rcases List.mem_cons.1 hN with rfl | hN
      · cases hp
      · exact h.dom N hN p hp⟩

/-- heaplets put together, and taken apart again -/
theorem HS.fold {M : List Nat} {w0 w : World} (A R : List Hl) (h : HS M w0 w (A ++ R)) : ∃ NR : Hl, NR = R.flatten ∧ HS M w0 w (A ++ [NR]) := by
  refine ⟨_, rfl, h.os, h.tape, h.output, h.size, h.old, fun N hN p hp => ?_, fun N hN => ?_, ?_, fun N hN p hp => ?_⟩
  · rcases List.mem_append.1 hN with hN | hN
    · exact h.has N (List.mem_append_left _ hN) p hp
    · obtain rfl := List.mem_singleton.1 hN
      obtain ⟨N', hN', hp⟩ := List.mem_flatten.1 hp
      exact h.has N' (List.mem_append_right _ hN') p hp
  · rcases List.mem_append.1 hN with hN | hN
    · exact h.nd N (List.mem_append_left _ hN)
    · obtain rfl := List.mem_singleton.1 hN
      rw [List.map_flatten, List.Nodup, List.pairwise_flatten]
      refine ⟨fun l hl => ?_, ?_⟩
      · obtain ⟨N', hN', rfl⟩ := List.mem_map.1 hl
        exact h.nd N' (List.mem_append_right _ hN')
      · rw [List.pairwise_map]
        refine (List.pairwise_append.1 h.ap).2.1.imp fun {N N'} hap => ?_
        intro b hb b' hb' he
        obtain ⟨p, hp, rfl⟩ := List.mem_map.1 hb
        obtain ⟨q, hq, rfl⟩ := List.mem_map.1 hb'
        exact hap p hp q hq he
  · have ha := List.pairwise_append.1 h.ap
    refine List.pairwise_append.2 ⟨ha.1, by simp, fun N hN N' hN' => ?_⟩
    obtain rfl := List.mem_singleton.1 hN'
    intro p hp q hq
    obtain ⟨N', hN', hq⟩ := List.mem_flatten.1 hq
    exact ha.2.2 N hN N' hN' p hp q hq
  · rcases List.mem_append.1 hN with hN | hN
    · exact h.dom N (List.mem_append_left _ hN) p hp
    · obtain rfl := List.mem_singleton.1 hN
      obtain ⟨N', hN', hp⟩ := List.mem_flatten.1 hp
      exact h.dom N' (List.mem_append_right _ hN') p hp
theorem HS.unfold {M : List Nat} {w0 w : World} (A : List Hl) {R : List Hl} {NR : Hl} (he : NR = R.flatten) (h : HS M w0 w (A ++ [NR])) : HS M w0 w (A ++ R) := by
  subst he
  have hnd := h.nd R.flatten (by simp)
  rw [List.map_flatten, List.Nodup, List.pairwise_flatten, List.pairwise_map] at hnd
  have ha := List.pairwise_append.1 h.ap
  refine ⟨h.os, h.tape, h.output, h.size, h.old, fun N hN p hp => ?_, fun N hN => ?_, ?_, fun N hN p hp => ?_⟩
  · rcases List.mem_append.1 hN with hN | hN
    · exact h.has N (List.mem_append_left _ hN) p hp
    · exact h.has _ (List.mem_append_right _ (List.mem_singleton.2 rfl)) p (List.mem_flatten.2 ⟨N, hN, hp⟩)
  · rcases List.mem_append.1 hN with hN | hN
    · exact h.nd N (List.mem_append_left _ hN)
    · exact hnd.1 _ (List.mem_map.2 ⟨N, hN, rfl⟩)
  · refine List.pairwise_append.2 ⟨ha.1, hnd.2.imp fun {N N'} hd => fun p hp q hq he => ?_, fun N hN N' hN' p hp q hq => ?_⟩
    · exact hd _ (List.mem_map_of_mem (f := (·.1)) hp) _ (List.mem_map_of_mem (f := (·.1)) hq) he
    · exact ha.2.2 N hN _ (List.mem_singleton.2 rfl) p hp q (List.mem_flatten.2 ⟨N', hN', hq⟩)
  · rcases List.mem_append.1 hN with hN | hN
    · exact h.dom N (List.mem_append_left _ hN) p hp
    · exact h.dom _ (List.mem_append_right _ (List.mem_singleton.2 rfl)) p (List.mem_flatten.2 ⟨N, hN, hp⟩)

theorem Own.cut {e k n : Nat} {v : Value} {cs : List Value} {N : Hl} (h : Own e k v n cs N) (lo hi : Nat) (h1 : lo ≤ hi) (h2 : hi ≤ n) :
    ∃ v', (∀ a c, v = .slice a n c → v' = .slice (if c = lo then a else a.map (·.add (lo * k))) (hi - lo) (c - lo)) ∧ Own e k v' (hi - lo) ((cs.drop (lo * k)).take ((hi - lo) * k)) N := by
  obtain ⟨e1, e2⟩ := h
  have hk1 : lo * k ≤ hi * k := Nat.mul_le_mul_right k h1
  have hk2 : hi * k ≤ n * k := Nat.mul_le_mul_right k h2
  have hk3 : (hi - lo) * k = hi * k - lo * k := Nat.sub_mul _ _ _
  rcases e2 with ⟨rfl, rfl, rfl⟩ | ⟨b, off, cap, pre, sp, fr, rfl, rfl, hoff, hcap, hsp, hfr⟩
  · obtain rfl : hi = 0 := by omega
    obtain rfl : lo = 0 := by omega
    have : cs = [] := List.eq_nil_of_length_eq_zero (by simpa using e1)
    subst this
    exact ⟨.slice none 0 0, (fun a c he => by cases he; simp), by simp, .inl ⟨rfl, rfl, rfl⟩⟩
  · refine ⟨.slice (if cap = lo then some ⟨b, off, none⟩ else some ⟨b, off + lo * k, none⟩) (hi - lo) (cap - lo), fun a c he => ?_, ?_, ?_⟩
    · cases he
      simp [add_off]
    · simp; omega
    · have hsplit : pre ++ cs ++ sp = (pre ++ cs.take (lo * k)) ++ ((cs.drop (lo * k)).take ((hi - lo) * k)) ++ (cs.drop (hi * k) ++ sp) := by
        have a1 : cs = cs.take (lo * k) ++ ((cs.drop (lo * k)).take ((hi - lo) * k) ++ cs.drop (hi * k)) := by
          have a2 : cs.drop (hi * k) = (cs.drop (lo * k)).drop ((hi - lo) * k) := by rw [List.drop_drop]; congr 1; omega
          rw [a2, List.take_append_drop, List.take_append_drop]
        conv => lhs; rw [a1]
        simp only [List.append_assoc]
      by_cases hc : cap = lo
      · obtain rfl : hi = lo := by omega
        have hz : ((cs.drop (hi * k)).take ((hi - hi) * k)) = [] := by simp
        refine .inr ⟨b, off, cap - hi, pre, cs ++ sp, fr, by rw [if_pos hc], ?_, hoff, by omega, ?_, ?_⟩
        · rw [hz]; simp
        · rw [hc]; simp
        · rw [hz]; simpa using hfr
      · refine .inr ⟨b, off + lo * k, cap - lo, pre ++ cs.take (lo * k), cs.drop (hi * k) ++ sp, fr, by rw [if_neg hc], ?_, ?_, by omega, ?_, ?_⟩
        · rw [← hsplit]
        · simp; omega
        · have : (cap - lo - (hi - lo)) * k = cap * k - hi * k := by rw [show cap - lo - (hi - lo) = cap - hi by omega, Nat.sub_mul]
          have h5 : (cap - n) * k = cap * k - n * k := Nat.sub_mul _ _ _
          have h6 : n * k ≤ cap * k := Nat.mul_le_mul_right k hcap
          simp; omega
        · rw [← hsplit]; exact hfr

theorem Own.shape {e k n : Nat} {v : Value} {cs : List Value} {N : Hl} (h : Own e k v n cs N) : ∃ a c, v = .slice a n c ∧ n ≤ c := by
  rcases h.2 with ⟨rfl, rfl, rfl⟩ | ⟨b, off, cap, pre, sp, fr, rfl, rfl, hoff, hcap, hsp, hfr⟩
  · exact ⟨_, _, rfl, Nat.le_refl _⟩
  · exact ⟨_, _, rfl, hcap⟩

theorem Own.one {e k n : Nat} {v : Value} {cs : List Value} {N : Hl} (h : Own e k v n cs N) : v.oneCell' = true := by
  obtain ⟨a, c, rfl, _⟩ := h.shape; rfl
/-- the whole of a block of one's own, an array or a struct -/
theorem q_loadW {d : TypeDesc} {b T k bb : Nat} {z : Value} {fr : Nat × Nat} {c : List Value} (hH : HS M w0 w Hs) (i : Nat) (hi : nth? Hs i = some [(b, Obj.cells c.toArray T fr)])
    (hT : P.underlying t = some d) (hf : flat d = false) (he : TI P t k bb z) (hx : E.ev x = some (.pointer (some ⟨b, 0, none⟩))) (hk : c.length = k) : Runs P E (.load t x) ty w (.agg c.toArray) :=
  q_loadBA hH i hi (List.mem_singleton.2 rfl) hT hf he hx c (by simp [← hk]) hk

/-- a block holds these cells -/
def Gv (w : World) (g : Nat) (c : List Value) : Prop := ∃ T fr, w.heap[g]? = some (.cells c.toArray T fr)
theorem HS.gv {g : Nat} {c : List Value} (hH : HS M w0 w Hs) (h : Gv w0 g c) (hg : g ∉ M) : Gv w g c := by
  obtain ⟨T, fr, h⟩ := h
  exact ⟨T, fr, by rw [hH.old g (Array.getElem?_eq_some_iff.1 h).1 hg]; exact h⟩
theorem q_loadG {d : TypeDesc} {b k bb : Nat} {z : Value} {c : List Value} (hg : Gv w b c)
    (hT : P.underlying t = some d) (hf : flat d = false) (he : TI P t k bb z) (hx : E.ev x = some (.pointer (some ⟨b, 0, none⟩))) (hk : c.length = k) : Runs P E (.load t x) ty w (.agg c.toArray) := by
  obtain ⟨T, fr, h⟩ := hg
  refine q_loadA hT hf he hx c hk fun j u hu => ?_
  rw [add_off, cell_at h]
  simpa using hu
theorem q_loadGm {α : Type} {f : α → Value} {l : List α} {d : TypeDesc} {b o : Nat} (d0 : α) (hg : Gv w b (l.map f))
    (hT : P.underlying t = some d) (hf : flat d = true) (hx : E.ev x = some (.pointer (some ⟨b, o, none⟩))) (hu : o < l.length) : Runs P E (.load t x) ty w (f (l.getD o d0)) := by
  obtain ⟨T, fr, h⟩ := hg
  refine q_load_cell hT hf hx ?_
  rw [cell_at h]
  simp [hu, List.getD]
/-- the results of a function that lie in memory -/
theorem resW {d : TypeDesc} {b T k bb : Nat} {z : Value} {fr : Nat × Nat} {c : List Value} (hH : HS M w0 w Hs) (i : Nat) (hi : nth? Hs i = some [(b, Obj.cells c.toArray T fr)])
    (hT : P.underlying t = some d) (hf : flat d = false) (he : TI P t k bb z) (hk : c.length = k) : (loadVar t ⟨b, 0, none⟩).run P w = .ok (.agg c.toArray) w :=
  loadVar_own hH i hi (List.mem_singleton.2 rfl) hT hf he hk

section
variable {α : Type} {f : α → Value}
/-- a literal of elements of one cell each -/
theorem lo_bs {n : Nat} {parts : List (Nat × Operand)} {vs : List (Nat × Value)} {e : Nat} (l : List α) (hH : HS M w0 w Hs) (hp : evs E parts = some vs) (hn : l.length = n)
    (hr : ∀ w, (Instr.buildSlice t n vs.toArray).run P w = .ok (.slice (some ⟨w.heap.size, 0, none⟩) n n) (w.alloc (.cells (l.map f).toArray e))) :
    Lo P E (.buildSlice t n parts.toArray) ty w (fun v w' => ∃ N, Ow f e v l N ∧ HS M w0 w' (N :: Hs)) := by
  subst hn
  exact lo_buildSlice (k := 1) (bb := 0) (z := undef) hH hp (by simp) hr

theorem lo_appm {e bb : Nat} {z : Value} {v : Value} {l l' : List α} {N : Hl} {rest : List Hl} {xv : Value} {d : TypeDesc}
    (hH : HS M w0 w (N :: rest)) (ht : P.underlying t = some (.slice e)) (ht' : P.underlying t' = some d) (hd : d = .slice e ∨ d = .string)
    (he : TI P e 1 bb z) (hz : z.cells.size = 1) (hx : E.ev x = some v) (hy : E.ev y = some xv)
    (hown : Ow f e v l N) (hs : Src P w xv 1 l'.length (l'.map f)) (h1 : ∀ u ∈ l'.map f, u.oneCell' = true)
    (hb : (l.length + l'.length) * bb ≤ 140737488355328) (hn : l.length + l'.length ≤ 9223372036854775807) :
    Lo P E (.call ⟨.builtin .append, #[x, y], #[t, t']⟩) ty w (fun v' w' => ∃ N', Ow f e v' (l ++ l') N' ∧ HS M w0 w' (N' :: rest)) := by
  have := lo_append (ty := ty) hH ht ht' hd he hz hx hy hown hs h1 hb hn
  simpa [Ow] using this

theorem Ow.cut {e : Nat} {v : Value} {l : List α} {N : Hl} (h : Ow f e v l N) (lo hi : Nat) (h1 : lo ≤ hi) (h2 : hi ≤ l.length) :
    ∃ v', (∀ a c, v = .slice a l.length c → v' = .slice (if c = lo then a else a.map (·.add (lo * 1))) (hi - lo) (c - lo)) ∧ Ow f e v' ((l.drop lo).take (hi - lo)) N := by
  obtain ⟨v', hv, ho⟩ := Own.cut h lo hi h1 h2
  refine ⟨v', hv, ?_⟩
  have e1 : ((l.drop lo).take (hi - lo)).length = hi - lo := by simp; omega
  simpa [Ow, e1, List.map_take, List.map_drop] using ho
theorem Rm.cut {v : Value} {l : List α} (h : Rm f M w v l) (lo hi : Nat) (h1 : lo ≤ hi) (h2 : hi ≤ l.length) :
    ∃ v', (∀ a c, v = .slice a l.length c → v' = .slice (if c = lo then a else a.map (·.add (lo * 1))) (hi - lo) (c - lo)) ∧ Rm f M w v' ((l.drop lo).take (hi - lo)) := by
  obtain ⟨v', hv, ho⟩ := Rd.cut h lo hi h1 h2
  refine ⟨v', hv, ?_⟩
  have e1 : ((l.drop lo).take (hi - lo)).length = hi - lo := by simp; omega
  simpa [Rm, e1, List.map_take, List.map_drop] using ho

/-- a store into a slice of one's own -/
theorem lo_storeO {e bb : Nat} {z : Value} {v : Value} {l : List α} {N : Hl} {rest : List Hl} {u : α} {j : Nat} (hH : HS M w0 w (N :: rest)) (hO : Ow f e v l N) (he : TI P t 1 bb z)
    (hx : E.ev x = some (.pointer (some (v.cellAt j)))) (hy : E.ev y = some (f u)) (hj : j < l.length) (h1 : (f u).oneCell' = true) :
    Lo P E (.store t x y) ty w (fun _ w' => ∃ N', Ow f e v (l.set j u) N' ∧ HS M w0 w' (N' :: rest)) := by
  have hlen := hO.len
  rcases hO.2 with ⟨rfl, h0, _⟩ | ⟨b, off, cap, pre, sp, fr, rfl, rfl, hoff, hcap, hsp, hfr⟩
  · omega
  · have hc : (f u).cells = #[f u] := by
      cases h : f u <;> first | rfl | (rw [h] at h1; cases h1)
    have := lo_store (ty := ty) (t := t) (y := y) hH he hx hy (by rw [hc]; rfl) (by simp; omega) hfr (by rw [hc]; simpa using h1)
    refine this.mono fun _ w' hw => ⟨_, ⟨by simp, .inr ⟨b, off, cap, pre, sp, fr, by simp, rfl, hoff, by simpa using hcap, by simpa using hsp, by simpa using hfr⟩⟩, ?_⟩
    rw [hc] at hw
    have e2 : putAt (pre ++ l.map f ++ sp) (off + j) [f u] = pre ++ (l.set j u).map f ++ sp := by
      simp only [putAt, List.append_assoc, List.map_set]
      rw [List.set_append_right _ _ (by omega), List.set_append_left _ _ (by simp; omega)]
      congr 2
      congr 1
      omega
    simp only [Array.toList] at hw
    rw [e2] at hw
    exact hw
end

end
end Go.Proofs.YthhdilafnfcpbaaDoor
/- A region whose next loud operation is one of two. -/
namespace Go.Proofs.YthhdilafnfcpbaaDoor
open Go
section
variable {P : Program} {ops : Array Oper} {Q : Exit → Act → World → Prop} {S : World → Prop} {keep : Nat → Bool} {n : Nat} {E : Env} {a : Act} {w : World} {listed listed' : Array Bool} {fuel : Nat}
  {d : Nat} {op : Op} {ty : TypeId} {pos : String} {af : Array Edge}

/-- the operation i is the next one -/
def wpOne (P : Program) (ops : Array Oper) (Q : Exit → Act → World → Prop) (S : World → Prop) (keep : Nat → Bool) (fuel : Nat) (listed : Array Bool) (a : Act) (w : World) (i : Nat) : Prop :=
  wpOp P ops Q i (fun a' w' => (S w → keep i = true → S w') ∧ wpK P .any ops Q S keep fuel (listed.setIfInBounds i true) a' w') a w

theorem oneL (hA : At n E a) (i : Nat) {Post : Value → World → Prop} (ho : ops[i]? = some ⟨some d, op, ty, pos, af, none⟩)
    (h : Lo P E op ty w Post) (hd : Nat.blt d n = true) (hl : listed.setIfInBounds i true = listed')
    (k : ∀ v w', Post v w' → (S w → keep i = true → S w') ∧ ∀ a', At n ((d, v) :: E) a' → wpK P .any ops Q S keep fuel listed' a' w') :
    wpOne P ops Q S keep fuel listed a w i := by
  unfold wpOne wpOp
  simp only [ho]
  rw [if_pos (by simp [Region.wanted])]
  refine .inl (h a (some d) pos af none _ Q (fun x u hx => hA.ev hx) fun v w' hv => ?_)
  obtain ⟨k1, k2⟩ := k v w' hv
  rw [hl]
  exact ⟨k1, k2 _ (hA.put hd v)⟩
theorem one0 (hA : At n E a) (i : Nat) {Post : Value → World → Prop} (ho : ops[i]? = some ⟨none, op, ty, pos, af, none⟩)
    (h : Lo P E op ty w Post) (hl : listed.setIfInBounds i true = listed')
    (k : ∀ v w', Post v w' → (S w → keep i = true → S w') ∧ wpK P .any ops Q S keep fuel listed' a w') :
    wpOne P ops Q S keep fuel listed a w i := by
  unfold wpOne wpOp
  simp only [ho]
  rw [if_pos (by simp [Region.wanted])]
  refine .inl (h a none pos af none _ Q (fun x u hx => hA.ev hx) fun v w' hv => ?_)
  obtain ⟨k1, k2⟩ := k v w' hv
  rw [hl]
  exact ⟨k1, k2⟩
theorem o1 (hA : At n E a) (i m' : Nat) {N m : Nat} {Post : Value → World → Prop} (ho : ops[i]? = some ⟨some d, op, ty, pos, af, none⟩) (h : Lo P E op ty w Post)
    (k : ∀ v w', Post v w' → (S w → keep i = true → S w') ∧ ∀ a', At n ((d, v) :: E) a' → wpK P .any ops Q S keep fuel (lst N m') a' w') (hd : Nat.blt d n = true := by rfl) (hl : (lst N m).setIfInBounds i true = lst N m' := by kernel_rfl) :
    wpOne P ops Q S keep fuel (lst N m) a w i := oneL hA i ho h hd hl k
theorem o0 (hA : At n E a) (i m' : Nat) {N m : Nat} {Post : Value → World → Prop} (ho : ops[i]? = some ⟨none, op, ty, pos, af, none⟩) (h : Lo P E op ty w Post)
    (k : ∀ v w', Post v w' → (S w → keep i = true → S w') ∧ wpK P .any ops Q S keep fuel (lst N m') a w') (hl : (lst N m).setIfInBounds i true = lst N m' := by kernel_rfl) :
    wpOne P ops Q S keep fuel (lst N m) a w i := one0 hA i ho h hl k
end
end Go.Proofs.YthhdilafnfcpbaaDoor
/- Maps by whole numbers that the program has made: over heaplets. Bytes as texts. -/
namespace Go.Proofs.YthhdilafnfcpbaaDoor
open Go Go.MapKept
set_option linter.unusedVariables false
set_option linter.unusedSimpArgs false
def mget (m : List (Int × Value)) (k : Int) : Option Value := (m.find? fun p => p.1 == k).map (·.2)
section
variable {P : Program} {E : Env} {ty t t' : TypeId} {w : World} {x y z : Operand} {M : List Nat} {w0 : World} {Hs : List Hl}
end
/-! ### bytes as texts -/
section
variable {P : Program} {E : Env} {ty t t' : TypeId} {w : World} {x y : Operand}
end
end Go.Proofs.YthhdilafnfcpbaaDoor
