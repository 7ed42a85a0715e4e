/- Frames as short lists of known slots; the steps of a region, in order and in whatever order. -/
import Derived.Orders
import Derived.Tactics
import Derived.Deep.LoopGhost
namespace Go.Proofs.YtipjpbfledddaaaDoor
open Go
set_option linter.unusedVariables false
set_option linter.unusedSimpArgs false

/-- known slots, the newest first -/
abbrev Env := List (Nat × Value)

def Env.look : Env → Nat → Option Value
  | [], _ => none
  | (k, v) :: r, t => bif Nat.beq k t then some v else Env.look r t

def Env.ev (E : Env) : Operand → Option Value
  | .tmp t => E.look t
  | .const v => some v
  | .global g => some (.pointer (some ⟨g, 0, none⟩))
  | .func f => some (.func (.func f) #[] #[])

/-- the frame has n slots, nothing deferred, and holds what E says -/
structure At (n : Nat) (E : Env) (a : Act) : Prop where
  size : a.tmps.size = n
  defers : a.defers = []
  sat : ∀ t v, E.look t = some v → a.tmps[t]? = some v

theorem At.getD {n E a} (h : At n E a) {t v} (ht : E.look t = some v) : a.tmps.getD t undef = v := by
  have := h.sat t v ht
  simp [Array.getD_eq_getD_getElem?, this]

theorem At.ev {n E a} (h : At n E a) {x v} (hx : E.ev x = some v) : a.eval x = v := by
  cases x with
  | tmp t => exact h.getD hx
  | const c => exact Option.some.inj hx
  | global g => exact Option.some.inj hx
  | func f => exact Option.some.inj hx

theorem Env.look_cons (d : Nat) (v : Value) (E : Env) (t : Nat) : Env.look ((d, v) :: E) t = if d = t then some v else E.look t := by
  by_cases h : d = t
  · subst h; simp [Env.look]
  · have hb : Nat.beq d t = false := by cases hh : Nat.beq d t; · rfl
                                        · exact absurd (Nat.eq_of_beq_eq_true hh) h
    simp [Env.look, hb, h]

theorem At.put {n E a d} (h : At n E a) (hd : Nat.blt d n = true) (v : Value) : At n ((d, v) :: E) (a.put (some d) v) := by
  have hd : d < n := Nat.le_of_ble_eq_true hd
  refine ⟨by simp [Act.put, h.size], h.defers, fun t u ht => ?_⟩
  rw [Env.look_cons] at ht
  have hlt : d < a.tmps.size := by rw [h.size]; exact hd
  by_cases he : d = t
  · subst he
    rw [if_pos rfl] at ht
    cases ht
    simp [Act.put, Array.getElem?_setIfInBounds, hlt]
  · rw [if_neg he] at ht
    have := h.sat t u ht
    simp [Act.put, Array.getElem?_setIfInBounds_ne he, this]

theorem At.skip {n E a d} (h : At n E a) (hd : E.look d = none) (v : Value) : At n E (a.put (some d) v) := by
  refine ⟨by simp [Act.put, h.size], h.defers, fun t u ht => ?_⟩
  have he : d ≠ t := fun e => by subst e; rw [hd] at ht; cases ht
  have := h.sat t u ht
  simp [Act.put, Array.getElem?_setIfInBounds_ne he, this]

/-- every slot that the shorter list knows, the longer one knows alike -/
def Env.has (E : Env) : Env → Prop
  | [] => True
  | (k, v) :: r => E.look k = some v ∧ Env.has E r

theorem Env.has_look {E E' : Env} (h : E.has E') {t v} (ht : E'.look t = some v) : E.look t = some v := by
  induction E' with
  | nil => cases ht
  | cons p r ih =>
    obtain ⟨h1, h2⟩ := h
    rw [show (p :: r) = ((p.1, p.2) :: r) from rfl, Env.look_cons] at ht
    by_cases he : p.1 = t
    · rw [if_pos he] at ht; cases ht; subst he; exact h1
    · rw [if_neg he] at ht; exact ih h2 ht

theorem At.sub {n E a} (h : At n E a) {E' : Env} (hs : E.has E') : At n E' a :=
  ⟨h.size, h.defers, fun t v ht => h.sat t v (Env.has_look hs ht)⟩

/-! ### what one operation does -/

/-- the operation, wherever E holds, yields v and leaves the world w -/
def Runs (P : Program) (E : Env) (op : Op) (ty : TypeId) (w : World) (v : Value) : Prop :=
  ∀ (ρ : Operand → Value) (dst : Option Tmp) (pos : String) (af : Array Edge) (g : Option (Nat × Bool)),
    (∀ x u, E.ev x = some u → ρ x = u) → (execOp ρ ⟨dst, op, ty, pos, af, g⟩).run P w = .ok (.value v) w

/-- the operation comes to a value and a world that are Post -/
def Lo (P : Program) (E : Env) (op : Op) (ty : TypeId) (w : World) (Post : Value → World → Prop) : Prop :=
  ∀ (a : Act) (dst : Option Tmp) (pos : String) (af : Array Edge) (g : Option (Nat × Bool)) (K : Act → World → Prop) (Q : Exit → Act → World → Prop),
    (∀ x u, E.ev x = some u → a.eval x = u) → (∀ v w', Post v w' → K (a.put dst v) w') → Oper.wp P ⟨dst, op, ty, pos, af, g⟩ a w K Q

theorem Runs.lo {P E op ty w v} (h : Runs P E op ty w v) : Lo P E op ty w (fun v' w' => v' = v ∧ w' = w) := by
  intro a dst pos af g K Q ha hK
  unfold Oper.wp
  rw [h a.eval dst pos af g ha]
  exact hK v w ⟨rfl, rfl⟩

theorem Runs.bt {P E op ty w} {p : Prop} [Decidable p] (h : Runs P E op ty w (.bool (decide p))) (hp : p) : Runs P E op ty w (.bool true) := by
  rw [decide_eq_true hp] at h; exact h
theorem Runs.bf {P E op ty w} {p : Prop} [Decidable p] (h : Runs P E op ty w (.bool (decide p))) (hp : ¬ p) : Runs P E op ty w (.bool false) := by
  rw [decide_eq_false hp] at h; exact h

theorem Lo.mono {P E op ty w Post Post'} (h : Lo P E op ty w Post) (hp : ∀ v w', Post v w' → Post' v w') : Lo P E op ty w Post' :=
  fun a dst pos af g K Q ha hK => h a dst pos af g K Q ha fun v w' hv => hK v w' (hp v w' hv)

/-! ### regions in the order of the text -/
section
variable {P : Program} {ops : Array Oper} {Q : Exit → Act → World → Prop} {rest : List Oper} {n : Nat} {E : Env} {a : Act} {w : World}
  {d : Nat} {op : Op} {ty : TypeId} {pos : String} {af : Array Edge}

theorem sq (hA : At n E a) {v : Value} (h : Runs P E op ty w v) (hd : Nat.blt d n = true)
    (k : ∀ a', At n ((d, v) :: E) a' → wpList P ops Q rest a' w) : wpList P ops Q (⟨some d, op, ty, pos, af, none⟩ :: rest) a w := by
  refine wpList_plain rfl fun K hK => ?_
  unfold Oper.wp
  rw [h a.eval (some d) pos af none fun x u hx => hA.ev hx]
  exact hK _ _ (k _ (hA.put hd v))

theorem sl (hA : At n E a) {Post : Value → World → Prop} (h : Lo P E op ty w Post) (hd : Nat.blt d n = true)
    (k : ∀ v w', Post v w' → ∀ a', At n ((d, v) :: E) a' → wpList P ops Q rest a' w') : wpList P ops Q (⟨some d, op, ty, pos, af, none⟩ :: rest) a w :=
  wpList_plain rfl fun K hK => h a (some d) pos af none K Q (fun x u hx => hA.ev hx) fun v w' hv => hK _ _ (k v w' hv _ (hA.put hd v))

/-- a store, or a call whose result goes nowhere -/
theorem s0 (hA : At n E a) {Post : Value → World → Prop} (h : Lo P E op ty w Post)
    (k : ∀ v w', Post v w' → wpList P ops Q rest a w') : wpList P ops Q (⟨none, op, ty, pos, af, none⟩ :: rest) a w :=
  wpList_plain rfl fun K hK => h a none pos af none K Q (fun x u hx => hA.ev hx) fun v w' hv => hK _ _ (k v w' hv)

theorem wanted_of {o : Oper} {g t : Nat} {b b' : Bool} (hg : o.guard = some (g, b)) (hA : At n E a) (hops : (ops[g]?).bind (·.dst) = some t)
    (ht : E.look t = some (.bool b')) : Region.wanted o (yielded ops a.tmps) = (b' == b) := by
  simp [Region.wanted, hg, yielded, hops, hA.sat t _ ht]

/-- guarded, and wanted -/
theorem gq (hA : At n E a) {g t : Nat} {b : Bool} {v : Value} (hops : (ops[g]?).bind (·.dst) = some t) (ht : E.look t = some (.bool b))
    (h : Runs P E op ty w v) (hd : Nat.blt d n = true)
    (k : ∀ a', At n ((d, v) :: E) a' → wpList P ops Q rest a' w) : wpList P ops Q (⟨some d, op, ty, pos, af, some (g, b)⟩ :: rest) a w := by
  refine wpList_step fun K hK => ?_
  rw [if_pos (by rw [wanted_of rfl hA hops ht]; simp)]
  unfold Oper.wp
  rw [h a.eval (some d) pos af (some (g, b)) fun x u hx => hA.ev hx]
  exact hK _ _ (k _ (hA.put hd v))

theorem gl (hA : At n E a) {g t : Nat} {b : Bool} {Post : Value → World → Prop} (hops : (ops[g]?).bind (·.dst) = some t) (ht : E.look t = some (.bool b))
    (h : Lo P E op ty w Post) (hd : Nat.blt d n = true)
    (k : ∀ v w', Post v w' → ∀ a', At n ((d, v) :: E) a' → wpList P ops Q rest a' w') : wpList P ops Q (⟨some d, op, ty, pos, af, some (g, b)⟩ :: rest) a w := by
  refine wpList_step fun K hK => ?_
  rw [if_pos (by rw [wanted_of rfl hA hops ht]; simp)]
  exact h a (some d) pos af _ K Q (fun x u hx => hA.ev hx) fun v w' hv => hK _ _ (k v w' hv _ (hA.put hd v))

/-- guarded, and not wanted -/
theorem gs (hA : At n E a) {g t : Nat} {b b' : Bool} (hops : (ops[g]?).bind (·.dst) = some t) (ht : E.look t = some (.bool b')) (hne : (b' == b) = false)
    (hd : E.look d = none)
    (k : ∀ a', At n E a' → wpList P ops Q rest a' w) : wpList P ops Q (⟨some d, op, ty, pos, af, some (g, b)⟩ :: rest) a w := by
  refine wpList_step fun K hK => ?_
  rw [if_neg (by rw [wanted_of rfl hA hops ht, hne]; simp)]
  exact hK _ _ (k _ (hA.skip hd _))

/-- guarded by an operation that itself was not carried out -/
theorem gs0 (hA : At n E a) {g : Nat} {b : Bool} (hy : Region.wanted ⟨some d, op, ty, pos, af, some (g, b)⟩ (yielded ops a.tmps) = false)
    (hd : E.look d = none)
    (k : ∀ a', At n E a' → wpList P ops Q rest a' w) : wpList P ops Q (⟨some d, op, ty, pos, af, some (g, b)⟩ :: rest) a w := by
  refine wpList_step fun K hK => ?_
  rw [if_neg (by rw [hy]; simp)]
  exact hK _ _ (k _ (hA.skip hd _))
end

/-! ### regions whose order is open: an operation that only looks may be taken first -/
section
variable {P : Program} {ops : Array Oper} {Q : Exit → Act → World → Prop} {md : Region.Mode} {S : World → Prop} {keep : Nat → Bool}

/-- whatever order is picked from here on; S holds behind each operation that 'keep' names -/
def wpK (P : Program) (md : Region.Mode) (ops : Array Oper) (Q : Exit → Act → World → Prop) (S : World → Prop) (keep : Nat → Bool) : Nat → Array Bool → Act → World → Prop
  | 0, listed, a, w => Region.ready md ops listed = [] ∧ Q .normal a w
  | fuel + 1, listed, a, w =>
    (Region.ready md ops listed = [] → Q .normal a w) ∧
    ∀ i ∈ Region.ready md ops listed, wpOp P ops Q i (fun a' w' => (S w → keep i = true → S w') ∧ wpK P md ops Q S keep fuel (listed.setIfInBounds i true) a' w') a w

theorem wpK_any : ∀ (fuel : Nat) (listed : Array Bool) (a : Act) (w : World), wpK P md ops Q S keep fuel listed a w → wpAny P md ops Q fuel listed a w
  | 0, _, _, _, h => h
  | fuel + 1, _, _, _, h => ⟨h.1, fun i hi => wpOp_mono (fun a' w' h' => wpK_any fuel _ a' w' h'.2) (h.2 i hi)⟩

/-- o yields v in every world that meets S -/
def YieldsS (P : Program) (ops : Array Oper) (S : World → Prop) (o : Oper) (v : Value) (a : Act) : Prop :=
  (Region.wanted o (yielded ops a.tmps) = true ∧ ∀ w, S w → (execOp a.eval o).run P w = .ok (.value v) w) ∨
  (Region.wanted o (yielded ops a.tmps) = false ∧ v = undef)

theorem YieldsS.wpOp {i : Nat} {o : Oper} {v : Value} {a : Act} (hi : ops[i]? = some o) (hy : YieldsS P ops S o v a)
    {K : Act → World → Prop} {w : World} (hS : S w) (h : K (a.put o.dst v) w) : wpOp P ops Q i K a w := by
  unfold Go.wpOp
  simp only [hi]
  rcases hy with ⟨hw, hv⟩ | ⟨hw, rfl⟩
  · simp only [hw, if_true, Oper.wp, hv w hS, Oper.upon]; exact .inl h
  · simp only [hw, Bool.false_eq_true, if_false]; exact h

theorem YieldsS.of_same {o : Oper} {v : Value} {a a' : Act} (hy : YieldsS P ops S o v a) (he : execOp a'.eval o = execOp a.eval o)
    (hw : Region.wanted o (yielded ops a'.tmps) = Region.wanted o (yielded ops a.tmps)) : YieldsS P ops S o v a' := by
  unfold YieldsS at *
  rw [he, hw]
  exact hy

theorem wpOp_putS {j : Nat} {oi oj : Oper} {v : Value} (hj : ops[j]? = some oj) (hap : oi.apart ops oj = true)
    (hsi : ∀ cs b, oi.op ≠ .select cs b) (hsj : ∀ cs b, oj.op ≠ .select cs b)
    (hQ : ∀ c a w, Q (.panic c) (a.put oi.dst v) w → Q (.panic c) a w) {K : Act → World → Prop} {a : Act} {w : World}
    (hy : YieldsS P ops S oi v a) (h : wpOp P ops Q j K (a.put oi.dst v) w) :
    wpOp P ops Q j (fun a' w' => YieldsS P ops S oi v a' ∧ K (a'.put oi.dst v) w') a w := by
  obtain ⟨h1, h2, h3⟩ := Oper.apart_spec hap
  have keep : ∀ (a : Act), YieldsS P ops S oi v a → ∀ u, YieldsS P ops S oi v (a.put oj.dst u) := fun a hy u =>
    hy.of_same (execOp_put oi hsi a oj.dst u h3) (wanted_put oi a oj.dst u h3)
  have keepD : ∀ d, YieldsS P ops S oi v { a with defers := d :: a.defers } := fun d => hy.of_same rfl rfl
  unfold wpOp at *
  simp only [hj] at *
  rw [wanted_put oj a oi.dst v h1] at h
  split
  · rename_i hw
    simp only [hw, if_true] at h
    rcases h with h | ⟨hasks, hlets⟩
    case inr => exact .inr ⟨by unfold Oper.asks at *; rw [execOp_put oj hsj a oi.dst v h1] at hasks; exact hasks, hlets⟩
    refine .inl ?_
    unfold Oper.wp at *
    rw [execOp_put oj hsj a oi.dst v h1] at h
    generalize (execOp a.eval oj).run P w = r at *
    cases r with
    | ok n w' =>
      cases n <;> simp only [Oper.upon] at h ⊢
      case value u => exact ⟨keep a hy u, by rw [← Act.put_comm a v u h2]; exact h⟩
      case skip => exact ⟨keep a hy _, by rw [← Act.put_comm a v undef h2]; exact h⟩
      case defer d =>
        refine ⟨keep _ (keepD d) _, ?_⟩
        rw [← Act.put_comm _ v undef h2, ← Act.put_defers]
        exact h
      case enter f args =>
        refine Calls.mono h fun e w'' he => ?_
        cases e with
        | returned u => exact ⟨keep a hy u, by rw [← Act.put_comm a v u h2]; exact he⟩
        | panicked c => exact hQ _ _ _ he
        | outgrown => exact he
      case row row args => exact Rows.mono h fun u w'' he => ⟨keep a hy u, by rw [← Act.put_comm a v u h2]; exact he⟩
    | halt x w' =>
      cases x <;> simp only [Oper.upon] at h ⊢
      case panic u => exact hQ _ _ _ h
  · rename_i hw
    simp only [hw] at h
    exact ⟨keep a hy _, by rw [← Act.put_comm a v undef h2]; exact h⟩

/-- an operation that may come up now may be taken first -/
theorem wpK_first {Sy : World → Prop} {ok : Nat → Bool} {i : Nat} {oi : Oper} {v : Value} (imp : ∀ j w w', ok j = true → (S w → keep j = true → S w') → Sy w → Sy w') (hi : ops[i]? = some oi) (hsel : ∀ (j : Nat) (o : Oper) cs b, ops[j]? = some o → o.op ≠ .select cs b)
    (hQ : ∀ c a w, Q (.panic c) (a.put oi.dst v) w → Q (.panic c) a w) :
    ∀ (fuel : Nat) (listed : Array Bool) (a : Act) (w : World),
      (∀ j oj, ops[j]? = some oj → j ≠ i → listed.getD j true = false → (∀ e ∈ oj.after, Region.binds md e = true → e.on ≠ i) → oi.apart ops oj = true ∧ ok j = true) →
      i ∈ Region.ready md ops listed → YieldsS P ops Sy oi v a → Sy w →
      wpK P md ops Q S keep fuel (listed.setIfInBounds i true) (a.put oi.dst v) w → wpK P md ops Q S keep (fuel + 1) listed a w := by
  intro fuel
  induction fuel with
  | zero =>
    intro listed a w _ hr hy hS H
    refine ⟨fun h => (by rw [h] at hr; cases hr), fun j hj => ?_⟩
    by_cases hji : j = i
    · subst hji; exact hy.wpOp hi hS ⟨fun h _ => h, H⟩
    · have := ready_mono hj hji
      rw [H.1] at this
      cases this
  | succ fuel ih =>
    intro listed a w hfree hr hy hS H
    refine ⟨fun h => (by rw [h] at hr; cases hr), fun j hj => ?_⟩
    by_cases hji : j = i
    · subst hji; exact hy.wpOp hi hS ⟨fun h _ => h, H⟩
    · have h1 := H.2 j (ready_mono hj hji)
      obtain ⟨hjun, oj, hoj, hall⟩ := mem_ready.1 hj
      have hnot : ∀ e ∈ oj.after, Region.binds md e = true → e.on ≠ i := fun e he hb heq => by
        have h1 := hall e he hb
        have h0 := (mem_ready.1 hr).1
        rw [heq] at h1
        rcases Nat.lt_or_ge i listed.size with h' | h'
        · simp [h'] at h0 h1; rw [h0] at h1; cases h1
        · simp [Array.getElem?_eq_none h'] at h1
      obtain ⟨hap, hkeep⟩ := hfree j oj hoj hji hjun hnot
      have h2 := wpOp_putS hoj hap (fun cs b => hsel i oi cs b hi) (fun cs b => hsel j oj cs b hoj) hQ hy h1
      have hfree' : ∀ k ok', ops[k]? = some ok' → k ≠ i → (listed.setIfInBounds j true).getD k true = false →
          (∀ e ∈ ok'.after, Region.binds md e = true → e.on ≠ i) → oi.apart ops ok' = true ∧ ok k = true := fun k ok' hk hki hun hno => by
        refine hfree k ok' hk hki ?_ hno
        by_cases hjk : j = k
        · subst hjk; exact hjun
        · rw [getD_set_ne true hjk] at hun; exact hun
      refine wpOp_mono (fun a' w' h3 => ⟨h3.2.1, ih (listed.setIfInBounds j true) a' w' hfree' (ready_mono hr (Ne.symm hji)) h3.1 (imp j w w' hkeep h3.2.1 hS) ?_⟩) h2
      rw [Array.setIfInBounds_comm _ _ hji]
      exact h3.2.2

/-- who could come ahead of number i touches none of its slots, and (where i looks at memory) is among those that keep S -/
def freeK (md : Region.Mode) (ops : Array Oper) (keep : Nat → Bool) (listed : Array Bool) (i : Nat) : Bool :=
  match ops[i]? with
  | none => false
  | some oi => (List.range ops.size).all fun j => j == i || listed.getD j true || match ops[j]? with
      | some oj => oj.after.any (fun e => Region.binds md e && e.on == i) || (oi.apart ops oj && keep j)
      | none => true

theorem freeK_spec {i : Nat} {oi : Oper} {listed : Array Bool} (hi : ops[i]? = some oi) (h : freeK md ops keep listed i = true) (j : Nat) (oj : Oper)
    (hj : ops[j]? = some oj) (hne : j ≠ i) (hun : listed.getD j true = false) (hno : ∀ e ∈ oj.after, Region.binds md e = true → e.on ≠ i) :
    oi.apart ops oj = true ∧ keep j = true := by
  simp only [freeK, hi, List.all_eq_true, List.mem_range] at h
  have h1 := h j (Array.getElem?_eq_some_iff.1 hj).1
  simp only [hj, Bool.or_eq_true, beq_iff_eq, hne, false_or, hun, Bool.false_eq_true] at h1
  rcases h1 with h1 | h1
  · obtain ⟨e, he, hb⟩ := Array.any_eq_true'.1 h1
    simp only [Bool.and_eq_true, beq_iff_eq] at hb
    exact absurd hb.2 (hno e he hb.1)
  · simpa using h1

/-- one look that answers all that a step by number i asks -/
def okTake (ops : Array Oper) (keep : Nat → Bool) (listed : Array Bool) (i : Nat) : Bool :=
  Region.noSelect ops && freeK .any ops keep listed i && (Region.ready .any ops listed).contains i
end

section
variable {P : Program} {ops : Array Oper} {Q : Exit → Act → World → Prop} {S : World → Prop} {keep : Nat → Bool}
  {n : Nat} {E : Env} {a : Act} {w : World} {fuel : Nat} {listed listed' : Array Bool}
  {d : Nat} {op : Op} {ty : TypeId} {pos : String} {af : Array Edge}

theorem any_begin {id : Nat} (S : World → Prop) (keep : Nat → Bool) (hm : P.follows .mixedOrders = true)
    (h : wpK P .any ops Q S keep ops.size (Array.replicate ops.size false) a { w with drawn := w.drawn + 1 }) : (Code.region id ops true).wp P Q a w :=
  wp_region_any hm (wpK_any _ _ _ _ h)

/-- an operation that looks at memory (S says what it sees) -/
theorem aq (hA : At n E a) (i : Nat) {v : Value} (ho : ops[i]? = some ⟨some d, op, ty, pos, af, none⟩) (hok : okTake ops keep listed i = true)
    (hQ : ∀ c a d v w, Q (.panic c) (a.put d v) w → Q (.panic c) a w) (hS : S w)
    (h : ∀ w, S w → Runs P E op ty w v) (hd : Nat.blt d n = true) (hl : listed.setIfInBounds i true = listed')
    (k : ∀ a', At n ((d, v) :: E) a' → wpK P .any ops Q S keep fuel listed' a' w) : wpK P .any ops Q S keep (fuel + 1) listed a w := by
  simp only [okTake, Bool.and_eq_true] at hok
  refine wpK_first (ok := keep) (Sy := S) (fun j w w' h1 h2 h3 => h2 h3 h1) ho (Region.noSelect_spec hok.1.1) (fun c a w => hQ c a _ _ w) fuel listed a w (freeK_spec ho hok.1.2) (by simpa using hok.2)
    (.inl ⟨by simp [Region.wanted], fun w' hw' => h w' hw' a.eval (some d) pos af none fun x u hx => hA.ev hx⟩) hS ?_
  rw [hl]
  exact k _ (hA.put hd v)

/-- guarded, and wanted -/
theorem agq (hA : At n E a) (i : Nat) {g t : Nat} {b : Bool} {v : Value} (ho : ops[i]? = some ⟨some d, op, ty, pos, af, some (g, b)⟩) (hok : okTake ops keep listed i = true)
    (hops : (ops[g]?).bind (·.dst) = some t) (ht : E.look t = some (.bool b))
    (hQ : ∀ c a d v w, Q (.panic c) (a.put d v) w → Q (.panic c) a w) (hS : S w)
    (h : ∀ w, S w → Runs P E op ty w v) (hd : Nat.blt d n = true) (hl : listed.setIfInBounds i true = listed')
    (k : ∀ a', At n ((d, v) :: E) a' → wpK P .any ops Q S keep fuel listed' a' w) : wpK P .any ops Q S keep (fuel + 1) listed a w := by
  simp only [okTake, Bool.and_eq_true] at hok
  refine wpK_first (ok := keep) (Sy := S) (fun j w w' h1 h2 h3 => h2 h3 h1) ho (Region.noSelect_spec hok.1.1) (fun c a w => hQ c a _ _ w) fuel listed a w (freeK_spec ho hok.1.2) (by simpa using hok.2)
    (.inl ⟨by rw [wanted_of rfl hA hops ht]; simp, fun w' hw' => h w' hw' a.eval (some d) pos af _ fun x u hx => hA.ev hx⟩) hS ?_
  rw [hl]
  exact k _ (hA.put hd v)

/-- guarded, and not wanted -/
theorem ags (hA : At n E a) (i : Nat) {g t : Nat} {b b' : Bool} (ho : ops[i]? = some ⟨some d, op, ty, pos, af, some (g, b)⟩) (hok : okTake ops keep listed i = true)
    (hops : (ops[g]?).bind (·.dst) = some t) (ht : E.look t = some (.bool b')) (hne : (b' == b) = false)
    (hQ : ∀ c a d v w, Q (.panic c) (a.put d v) w → Q (.panic c) a w) (hS : S w)
    (hd : E.look d = none) (hl : listed.setIfInBounds i true = listed')
    (k : ∀ a', At n E a' → wpK P .any ops Q S keep fuel listed' a' w) : wpK P .any ops Q S keep (fuel + 1) listed a w := by
  simp only [okTake, Bool.and_eq_true] at hok
  refine wpK_first (ok := keep) (Sy := S) (fun j w w' h1 h2 h3 => h2 h3 h1) ho (Region.noSelect_spec hok.1.1) (fun c a w => hQ c a _ _ w) fuel listed a w (freeK_spec ho hok.1.2) (by simpa using hok.2)
    (.inr ⟨by rw [wanted_of rfl hA hops ht, hne], rfl⟩) hS ?_
  rw [hl]
  exact k _ (hA.skip hd _)

/-- an operation that does not look at memory -/
theorem apq (hA : At n E a) (i : Nat) {v : Value} (ho : ops[i]? = some ⟨some d, op, ty, pos, af, none⟩) (hok : okTake ops (fun _ => true) listed i = true)
    (hQ : ∀ c a d v w, Q (.panic c) (a.put d v) w → Q (.panic c) a w)
    (h : ∀ w, Runs P E op ty w v) (hd : Nat.blt d n = true) (hl : listed.setIfInBounds i true = listed')
    (k : ∀ a', At n ((d, v) :: E) a' → wpK P .any ops Q S keep fuel listed' a' w) : wpK P .any ops Q S keep (fuel + 1) listed a w := by
  simp only [okTake, Bool.and_eq_true] at hok
  refine wpK_first (ok := fun _ => true) (Sy := fun _ => True) (fun _ _ _ _ _ _ => trivial) ho (Region.noSelect_spec hok.1.1) (fun c a w => hQ c a _ _ w) fuel listed a w (freeK_spec ho hok.1.2) (by simpa using hok.2)
    (.inl ⟨by simp [Region.wanted], fun w' hw' => h w' a.eval (some d) pos af none fun x u hx => hA.ev hx⟩) trivial ?_
  rw [hl]
  exact k _ (hA.put hd v)

/-- guarded, and wanted -/
theorem apgq (hA : At n E a) (i : Nat) {g t : Nat} {b : Bool} {v : Value} (ho : ops[i]? = some ⟨some d, op, ty, pos, af, some (g, b)⟩) (hok : okTake ops (fun _ => true) listed i = true)
    (hops : (ops[g]?).bind (·.dst) = some t) (ht : E.look t = some (.bool b))
    (hQ : ∀ c a d v w, Q (.panic c) (a.put d v) w → Q (.panic c) a w)
    (h : ∀ w, Runs P E op ty w v) (hd : Nat.blt d n = true) (hl : listed.setIfInBounds i true = listed')
    (k : ∀ a', At n ((d, v) :: E) a' → wpK P .any ops Q S keep fuel listed' a' w) : wpK P .any ops Q S keep (fuel + 1) listed a w := by
  simp only [okTake, Bool.and_eq_true] at hok
  refine wpK_first (ok := fun _ => true) (Sy := fun _ => True) (fun _ _ _ _ _ _ => trivial) ho (Region.noSelect_spec hok.1.1) (fun c a w => hQ c a _ _ w) fuel listed a w (freeK_spec ho hok.1.2) (by simpa using hok.2)
    (.inl ⟨by rw [wanted_of rfl hA hops ht]; simp, fun w' hw' => h w' a.eval (some d) pos af _ fun x u hx => hA.ev hx⟩) trivial ?_
  rw [hl]
  exact k _ (hA.put hd v)

/-- guarded, and not wanted -/
theorem apgs (hA : At n E a) (i : Nat) {g t : Nat} {b b' : Bool} (ho : ops[i]? = some ⟨some d, op, ty, pos, af, some (g, b)⟩) (hok : okTake ops (fun _ => true) listed i = true)
    (hops : (ops[g]?).bind (·.dst) = some t) (ht : E.look t = some (.bool b')) (hne : (b' == b) = false)
    (hQ : ∀ c a d v w, Q (.panic c) (a.put d v) w → Q (.panic c) a w)
    (hd : E.look d = none) (hl : listed.setIfInBounds i true = listed')
    (k : ∀ a', At n E a' → wpK P .any ops Q S keep fuel listed' a' w) : wpK P .any ops Q S keep (fuel + 1) listed a w := by
  simp only [okTake, Bool.and_eq_true] at hok
  refine wpK_first (ok := fun _ => true) (Sy := fun _ => True) (fun _ _ _ _ _ _ => trivial) ho (Region.noSelect_spec hok.1.1) (fun c a w => hQ c a _ _ w) fuel listed a w (freeK_spec ho hok.1.2) (by simpa using hok.2)
    (.inr ⟨by rw [wanted_of rfl hA hops ht, hne], rfl⟩) trivial ?_
  rw [hl]
  exact k _ (hA.skip hd _)

/-- the one operation that may come up: a call, an allocation, a store -/
theorem al (hA : At n E a) (i : Nat) {Post : Value → World → Prop} (ho : ops[i]? = some ⟨some d, op, ty, pos, af, none⟩) (hr : Region.ready .any ops listed = [i])
    (h : Lo P E op ty w Post) (hd : Nat.blt d n = true) (hl : listed.setIfInBounds i true = listed')
    (k : ∀ v w', Post v w' → (S w → keep i = true → S w') ∧ ∀ a', At n ((d, v) :: E) a' → wpK P .any ops Q S keep fuel listed' a' w') :
    wpK P .any ops Q S keep (fuel + 1) listed a w := by
  refine ⟨fun h0 => (by rw [h0] at hr; cases hr), fun j hj => ?_⟩
  rw [hr] at hj
  obtain rfl : j = i := by simpa using hj
  unfold wpOp
  simp only [ho]
  rw [if_pos (by simp [Region.wanted])]
  refine .inl (h a (some d) pos af none _ Q (fun x u hx => hA.ev hx) fun v w' hv => ?_)
  obtain ⟨k1, k2⟩ := k v w' hv
  rw [hl]
  exact ⟨k1, k2 _ (hA.put hd v)⟩

theorem al0 (hA : At n E a) (i : Nat) {Post : Value → World → Prop} (ho : ops[i]? = some ⟨none, op, ty, pos, af, none⟩) (hr : Region.ready .any ops listed = [i])
    (h : Lo P E op ty w Post) (hl : listed.setIfInBounds i true = listed')
    (k : ∀ v w', Post v w' → (S w → keep i = true → S w') ∧ wpK P .any ops Q S keep fuel listed' a w') :
    wpK P .any ops Q S keep (fuel + 1) listed a w := by
  refine ⟨fun h0 => (by rw [h0] at hr; cases hr), fun j hj => ?_⟩
  rw [hr] at hj
  obtain rfl : j = i := by simpa using hj
  unfold wpOp
  simp only [ho]
  rw [if_pos (by simp [Region.wanted])]
  refine .inl (h a none pos af none _ Q (fun x u hx => hA.ev hx) fun v w' hv => ?_)
  obtain ⟨k1, k2⟩ := k v w' hv
  rw [hl]
  exact ⟨k1, k2⟩

theorem agl (hA : At n E a) (i : Nat) {g t : Nat} {b : Bool} {Post : Value → World → Prop} (ho : ops[i]? = some ⟨some d, op, ty, pos, af, some (g, b)⟩) (hr : Region.ready .any ops listed = [i])
    (hops : (ops[g]?).bind (·.dst) = some t) (ht : E.look t = some (.bool b))
    (h : Lo P E op ty w Post) (hd : Nat.blt d n = true) (hl : listed.setIfInBounds i true = listed')
    (k : ∀ v w', Post v w' → (S w → keep i = true → S w') ∧ ∀ a', At n ((d, v) :: E) a' → wpK P .any ops Q S keep fuel listed' a' w') :
    wpK P .any ops Q S keep (fuel + 1) listed a w := by
  refine ⟨fun h0 => (by rw [h0] at hr; cases hr), fun j hj => ?_⟩
  rw [hr] at hj
  obtain rfl : j = i := by simpa using hj
  unfold wpOp
  simp only [ho]
  rw [if_pos (by rw [wanted_of rfl hA hops ht]; simp)]
  refine .inl (h a (some d) pos af _ _ Q (fun x u hx => hA.ev hx) fun v w' hv => ?_)
  obtain ⟨k1, k2⟩ := k v w' hv
  rw [hl]
  exact ⟨k1, k2 _ (hA.put hd v)⟩

theorem a_end (hr : Region.ready .any ops listed = []) (h : Q .normal a w) : ∀ fuel, wpK P .any ops Q S keep fuel listed a w
  | 0 => ⟨hr, h⟩
  | _ + 1 => ⟨fun _ => h, by rw [hr]; simp⟩
end

/-! ### code -/
section
variable {P : Program} {Q : Exit → Act → World → Prop} {n : Nat} {E : Env} {a : Act} {w : World}

theorem cond_t {c : Operand} {x y : Code} (hA : At n E a) (hc : E.ev c = some (.bool true)) (h : x.wp P Q a w) : (Code.cond c x y).wp P Q a w :=
  wp_cond_true (hA.ev hc) h
theorem cond_f {c : Operand} {x y : Code} (hA : At n E a) (hc : E.ev c = some (.bool false)) (h : y.wp P Q a w) : (Code.cond c x y).wp P Q a w :=
  wp_cond_false (hA.ev hc) h
theorem cond_b {c : Operand} {x y : Code} {t : Bool} (hA : At n E a) (hc : E.ev c = some (.bool t)) (h1 : t = true → x.wp P Q a w) (h2 : t = false → y.wp P Q a w) :
    (Code.cond c x y).wp P Q a w :=
  wp_cond_split (hA.ev hc) h1 h2
theorem cond_d {c : Operand} {x y : Code} {p : Prop} [Decidable p] (hA : At n E a) (hc : E.ev c = some (.bool (decide p))) (h1 : p → x.wp P Q a w) (h2 : ¬ p → y.wp P Q a w) :
    (Code.cond c x y).wp P Q a w :=
  wp_cond_split (hA.ev hc) (fun h => h1 (by simpa using h)) (fun h => h2 (by simpa using h))

theorem start {f : FuncId} {fn : Func} {c : Code} {args : Array Value} {R : Ending → World → Prop} (hf : P.funcs[f]? = some fn) (hb : fn.body = some c)
    (hn : fn.ntmps = n) (hs : Nat.ble args.size n = true) (hE : ∀ t v, E.look t = some v → args[t]? = some v)
    (h : ∀ a, At n E a → c.wp P (bodyPost P fn R) a w) : Calls P f args w R := by
  have hs : args.size ≤ n := Nat.le_of_ble_eq_true hs
  refine calls_of_wp hf hb (h _ ⟨?_, rfl, fun t v ht => ?_⟩)
  · simp; omega
  · have h1 := hE t v ht
    have hlt : t < args.size := (Array.getElem?_eq_some_iff.1 h1).1
    simp only [Array.getElem?_append_left hlt, h1]

/-- the arguments as a frame -/
def envOf : Nat → List Value → Env
  | _, [] => []
  | k, v :: r => (k, v) :: envOf (k + 1) r

theorem envOf_look : ∀ (l : List Value) (k t : Nat) (v : Value), Env.look (envOf k l) t = some v → k ≤ t ∧ l[t - k]? = some v
  | [], _, _, _, h => by cases h
  | x :: r, k, t, v, h => by
    rw [envOf, Env.look_cons] at h
    by_cases he : k = t
    · subst he; rw [if_pos rfl] at h; cases h; simp
    · rw [if_neg he] at h
      obtain ⟨h1, h2⟩ := envOf_look r (k + 1) t v h
      refine ⟨by omega, ?_⟩
      rw [show t - k = (t - (k + 1)) + 1 from by omega]
      simpa using h2

theorem args_look {l : List Value} (hE : envOf 0 l = E) : ∀ t v, E.look t = some v → l.toArray[t]? = some v := by
  intro t v h
  subst hE
  have := (envOf_look l 0 t v h).2
  simpa using this

theorem post_ret {fn : Func} {R : Ending → World → Prop} {v : Value} (hA : At n E a) (hr : (results fn a.tmps).run P w = .ok v w) (hR : R (.returned v) w) :
    bodyPost P fn R .ret a w := ⟨hA.defers, v, hr, hR⟩
theorem post_end {fn : Func} {R : Ending → World → Prop} {v : Value} (hA : At n E a) (hr : (results fn a.tmps).run P w = .ok v w) (hR : R (.returned v) w) :
    bodyPost P fn R .normal a w := ⟨hA.defers, v, hr, hR⟩

theorem res_none {fn : Func} (h : fn.results = #[]) : (results fn a.tmps).run P w = .ok (.tuple #[]) w := results_none h _ _ _
theorem res_1 {fn : Func} {t : Nat} {v : Value} (h : fn.results = #[.tmp t]) (hA : At n E a) (ht : E.look t = some v) : (results fn a.tmps).run P w = .ok v w := by
  rw [results_tmp h, hA.getD ht]
theorem res_2 {fn : Func} {t u : Nat} {v x : Value} (h : fn.results = #[.tmp t, .tmp u]) (hA : At n E a) (ht : E.look t = some v) (hu : E.look u = some x) :
    (results fn a.tmps).run P w = .ok (.tuple #[v, x]) w := by
  rw [results_tmp2 h, hA.getD ht, hA.getD hu]
theorem res_3 {fn : Func} {t u s : Nat} {v x y : Value} (h : fn.results = #[.tmp t, .tmp u, .tmp s]) (hA : At n E a) (ht : E.look t = some v) (hu : E.look u = some x) (hs : E.look s = some y) :
    (results fn a.tmps).run P w = .ok (.tuple #[v, x, y]) w := by
  have h1 := hA.getD ht; have h2 := hA.getD hu; have h3 := hA.getD hs
  simp only [Array.getD_eq_getD_getElem?] at h1 h2 h3
  simp [results, h, h1, h2, h3]
theorem res_c {fn : Func} {t T : Nat} {ad : Addr} {v : Value} (h : fn.results = #[.cell t T]) (hA : At n E a) (ht : E.look t = some (.pointer (some ad)))
    (hl : (loadVar T ad).run P w = .ok v w) : (results fn a.tmps).run P w = .ok v w := by
  have h1 := hA.getD ht
  simp only [Array.getD_eq_getD_getElem?] at h1
  simp [results, h, h1, asAddr, hl]
theorem res_c1 {fn : Func} {t T u : Nat} {ad : Addr} {v x : Value} (h : fn.results = #[.cell t T, .tmp u]) (hA : At n E a) (ht : E.look t = some (.pointer (some ad)))
    (hu : E.look u = some x) (hl : (loadVar T ad).run P w = .ok v w) : (results fn a.tmps).run P w = .ok (.tuple #[v, x]) w := by
  have h1 := hA.getD ht
  have h2 := hA.getD hu
  simp only [Array.getD_eq_getD_getElem?] at h1 h2
  simp [results, h, h1, h2, asAddr, hl]
end
end Go.Proofs.YtipjpbfledddaaaDoor
