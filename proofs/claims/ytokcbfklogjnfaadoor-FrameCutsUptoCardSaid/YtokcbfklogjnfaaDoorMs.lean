/- Structs of whole numbers: equal ones; their cells. -/
import Derived.Test.YtokcbfklogjnfaaDoorMx
namespace Go.Proofs.YtokcbfklogjnfaaDoor
open Go
set_option linter.unusedSimpArgs false
/-- fields that are whole numbers, one behind the other -/
def intF (P : Program) : Nat → List Field → Bool
  | _, [] => true
  | k, f :: fs => (match P.underlying f.type with | some (.int .i64) => true | _ => false) && f.name != "_" && f.offset == k && intF P (k + 1) fs
theorem run_eqFields_ints {P : Program} {w : World} (d : Nat) (p q : List Int) : ∀ (fs : List Field) (k : Nat), intF P k fs = true → p.length = k + fs.length → q.length = k + fs.length →
    (Op.eqFields (d + 1) (p.map I).toArray (q.map I).toArray fs).run P w = .ok (decide (p.drop k = q.drop k)) w
  | [], k, _, hp, hq => by
    have h1 : p.drop k = [] := List.drop_eq_nil_of_le (by simp at hp; omega)
    have h2 : q.drop k = [] := List.drop_eq_nil_of_le (by simp at hq; omega)
    simp [Op.eqFields, h1, h2]
  | f :: fs, k, h, hp, hq => by
    simp only [intF, Bool.and_eq_true, bne_iff_ne, ne_eq, beq_iff_eq] at h
    obtain ⟨⟨⟨h1, h2⟩, h3⟩, h4⟩ := h
    simp only [List.length_cons] at hp hq
    have hu : P.underlying f.type = some (.int .i64) := by
      revert h1
      split
      · intro _; assumption
      · intro h; cases h
    have l1 : k < p.length := by omega
    have l2 : k < q.length := by omega
    have e1 : p.drop k = p[k] :: p.drop (k + 1) := List.drop_eq_getElem_cons l1
    have e2 : q.drop k = q[k] :: q.drop (k + 1) := List.drop_eq_getElem_cons l2
    have p1 : (part f.type (p.map I).toArray f.offset).run P w = .ok (I p[k]) w := by simp [part, isAgg_flat hu rfl, h3, l1]
    have p2 : (part f.type (q.map I).toArray f.offset).run P w = .ok (I q[k]) w := by simp [part, isAgg_flat hu rfl, h3, l2]
    have hq2 : (Op.equalIn (d + 1) f.type (I p[k]) (I q[k])).run P w = .ok (p[k] == q[k]) w := run_equalIn_int w d f.type .i64 .i64 _ _ hu
    have ih := run_eqFields_ints (w := w) d p q fs (k + 1) h4 (by omega) (by omega)
    simp only [Op.eqFields, ne_eq, h2, not_false_eq_true, if_true, Sem.run_bind, p1, p2, hq2, Result.andThen_ok]
    by_cases hv : p[k] = q[k]
    · have e3 : (p.drop k = q.drop k) ↔ (p[k] = q[k] ∧ p.drop (k + 1) = q.drop (k + 1)) := by rw [e1, e2, List.cons.injEq]
      have e4 : decide (p.drop k = q.drop k) = decide (p.drop (k + 1) = q.drop (k + 1)) := decide_eq_decide.2 (e3.trans ⟨fun h => h.2, fun h' => ⟨hv, h'⟩⟩)
      rw [e4]
      simp [hv, ih]
    · have e4 : decide (p.drop k = q.drop k) = false := decide_eq_false fun e => by rw [e1, e2, List.cons.injEq] at e; exact hv e.1
      rw [e4]
      simp [hv]
/-- what a test of two structs of whole numbers asks of the tables -/
structure EqS (P : Program) (t : TypeId) (n : Nat) : Prop where
  u : P.underlying t = some (.struct (P.fieldsOf t))
  h : P.stoodInHeld t = false
  g : P.eqGuardType P.depth t = false
  i : intF P 0 (P.fieldsOf t).toList = true
  n : (P.fieldsOf t).toList.length = n
section
variable {P : Program} {E : Env} {ty t t' : TypeId} {w : World} {x y : Operand}
theorem q_eqlS {n : Nat} {p q : List Int} (h : EqS P t n) (hx : E.ev x = some (.agg (p.map I).toArray)) (hy : E.ev y = some (.agg (q.map I).toArray)) (hp : p.length = n) (hq : q.length = n) :
    Runs P E (.binOp .eql t x y t') ty w (.bool (decide (p = q))) := by
  intro ρ dst pos af g hρ
  have := run_eqFields_ints (w := w) 9998 p q _ 0 h.i (by rw [h.n]; omega) (by rw [h.n]; omega)
  simp only [execOp, hρ _ _ hx, hρ _ _ hy, Sem.run_bind, run_eqGuard_agg _ _ _ _ _ _ _ h.g, Result.andThen_ok, run_eql_struct, run_equalIn_struct _ _ _ _ _ h.u h.h, this]
  simp
theorem q_neqS {n : Nat} {p q : List Int} (h : EqS P t n) (hx : E.ev x = some (.agg (p.map I).toArray)) (hy : E.ev y = some (.agg (q.map I).toArray)) (hp : p.length = n) (hq : q.length = n) :
    Runs P E (.binOp .neq t x y t') ty w (.bool (decide (p ≠ q))) := by
  intro ρ dst pos af g hρ
  have := run_eqFields_ints (w := w) 9998 p q _ 0 h.i (by rw [h.n]; omega) (by rw [h.n]; omega)
  simp only [execOp, hρ _ _ hx, hρ _ _ hy, Sem.run_bind, run_eqGuard_agg _ _ _ _ _ _ _ h.g, Result.andThen_ok, run_neq_struct, run_equalIn_struct _ _ _ _ _ h.u h.h, this]
  simp
end
theorem six {ts : List Int} (h : ts.length = 6) : [ts.getD 0 0, ts.getD 1 0, ts.getD 2 0, ts.getD 3 0, ts.getD 4 0, ts.getD 5 0] = ts := by
  match ts, h with
  | [a, b, c, d, e, f], _ => rfl
/-- pointers to a block's cells -/
def pb (b : Nat) (j : Nat) : Value := .pointer (some ⟨b, j, none⟩)
theorem range_at {n i : Nat} (h : i < n) : (List.range n).getD i 0 = i := by simp [List.getD, h]
end Go.Proofs.YtokcbfklogjnfaaDoor
