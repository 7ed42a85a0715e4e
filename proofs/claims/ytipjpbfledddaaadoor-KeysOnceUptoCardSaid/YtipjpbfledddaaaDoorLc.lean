/- Operations that leave the world alone. -/
import Derived.Test.YtipjpbfledddaaaDoorLb
import Derived.Laws.Sem
import Derived.Laws.Entries
import Derived.Laws.Cells
import Derived.ChangeKeysEq
namespace Go.Proofs.YtipjpbfledddaaaDoor
open Go
set_option linter.unusedVariables false
set_option linter.unusedSimpArgs false

theorem wrapU (k : IntKind) (hk : k.signed = false) (n : Int) : k.wrap n = n % (2 ^ k.bits : Int) := by
  simp [IntKind.wrap, hk]
theorem wrap_i64 {n : Int} (h1 : -9223372036854775808 ≤ n) (h2 : n ≤ 9223372036854775807) : IntKind.i64.wrap n = n := by
  have e1 : ((2 : Int) ^ 64) = 18446744073709551616 := rfl
  have e2 : ((2 : Int) ^ (64 - 1)) = 9223372036854775808 := rfl
  simp only [IntKind.wrap, IntKind.bits, IntKind.signed, Bool.true_and, decide_eq_true_eq, e1, e2]
  split <;> omega

section
variable {P : Program} {E : Env} {ty t t' : TypeId} {w : World} {x y : Operand}

theorem q_move {v : Value} (h : E.ev x = some v) : Runs P E (.move x) ty w v := by
  intro ρ dst pos af g hρ; simp [execOp, hρ _ _ h]
theorem q_assign {v : Value} (h : E.ev x = some v) : Runs P E (.assign x) ty w v := by
  intro ρ dst pos af g hρ; simp [execOp, hρ _ _ h]
theorem q_pick_t {c a b : Operand} {v : Value} (hc : E.ev c = some (.bool true)) (h : E.ev a = some v) : Runs P E (.pick c a b) ty w v := by
  intro ρ dst pos af g hρ; simp [execOp, hρ _ _ h, hρ _ _ hc, asBool]
theorem q_pick_f {c a b : Operand} {v : Value} (hc : E.ev c = some (.bool false)) (h : E.ev b = some v) : Runs P E (.pick c a b) ty w v := by
  intro ρ dst pos af g hρ; simp [execOp, hρ _ _ h, hρ _ _ hc, asBool]
theorem q_extract {vs : List Value} {i : Nat} {v : Value} (h : E.ev x = some (.tuple vs.toArray)) (hv : nth? vs i = some v) : Runs P E (.extract x i) ty w v := by
  rw [nth?_eq] at hv
  intro ρ dst pos af g hρ; simp [execOp, hρ _ _ h, Instr.extract, hv]
theorem q_nilCheck {a : Addr} (h : E.ev x = some (.pointer (some a))) : Runs P E (.nilCheck x) ty w (.pointer (some a)) := by
  intro ρ dst pos af g hρ; simp [execOp, hρ _ _ h]
theorem q_not {b : Bool} (h : E.ev x = some (.bool b)) : Runs P E (.unOp .not t x) ty w (.bool !b) := by
  intro ρ dst pos af g hρ; simp [execOp, hρ _ _ h, Op.unary]

/-- what a binary operation on whole numbers of one kind asks of its run -/
theorem q_bin {op : BinOp} {k : IntKind} {m n : Int} {v : Value} (hx : E.ev x = some (.int k m)) (hy : E.ev y = some (.int k n))
    (hr : (binOp op t (.int k m) (.int k n)).run P w = .ok v w) : Runs P E (.binOp op t x y t') ty w v := by
  intro ρ dst pos af g hρ
  simp only [execOp, hρ _ _ hx, hρ _ _ hy]
  cases op <;> simp [eqGuard, hr]

/-! int -/
section
variable {m n : Int}
theorem q_addI (hx : E.ev x = some (I m)) (hy : E.ev y = some (I n)) (h : -9223372036854775808 ≤ m + n ∧ m + n ≤ 9223372036854775807) : Runs P E (.binOp .add t x y t') ty w (I (m + n)) :=
  q_bin hx hy (by simp [binOp, Op.intArith, wrap_i64 h.1 h.2])
theorem q_subI (hx : E.ev x = some (I m)) (hy : E.ev y = some (I n)) (h : -9223372036854775808 ≤ m - n ∧ m - n ≤ 9223372036854775807) : Runs P E (.binOp .sub t x y t') ty w (I (m - n)) :=
  q_bin hx hy (by simp [binOp, Op.intArith, wrap_i64 h.1 h.2])
theorem q_mulI (hx : E.ev x = some (I m)) (hy : E.ev y = some (I n)) (h : -9223372036854775808 ≤ m * n ∧ m * n ≤ 9223372036854775807) : Runs P E (.binOp .mul t x y t') ty w (I (m * n)) :=
  q_bin hx hy (by simp [binOp, Op.intArith, wrap_i64 h.1 h.2])
theorem q_quoI (hx : E.ev x = some (I m)) (hy : E.ev y = some (I n)) (h : 0 ≤ m ∧ m ≤ 9223372036854775807 ∧ 1 ≤ n) : Runs P E (.binOp .quo t x y t') ty w (I (m / n)) := by
  refine q_bin hx hy ?_
  have e : m.tdiv n = m / n := Int.tdiv_eq_ediv_of_nonneg h.1
  have h1 : 0 ≤ m / n := Int.ediv_nonneg h.1 (by omega)
  have h2 : m / n ≤ m := Int.ediv_le_self _ h.1
  simp only [binOp, Op.intDiv]
  simp [show n ≠ 0 by omega, e, wrap_i64 (n := m / n) (by omega) (by omega)]
theorem q_remI (hx : E.ev x = some (I m)) (hy : E.ev y = some (I n)) (h : 0 ≤ m ∧ 1 ≤ n) : Runs P E (.binOp .rem t x y t') ty w (I (m % n)) := by
  refine q_bin hx hy ?_
  have e : m.tmod n = m % n := Int.tmod_eq_emod_of_nonneg h.1
  simp only [binOp, Op.intDiv]
  simp [show n ≠ 0 by omega, e]
theorem q_lssI (hx : E.ev x = some (I m)) (hy : E.ev y = some (I n)) : Runs P E (.binOp .lss t x y t') ty w (.bool (decide (m < n))) := q_bin hx hy (by simp [binOp, Op.intCmp])
theorem q_leqI (hx : E.ev x = some (I m)) (hy : E.ev y = some (I n)) : Runs P E (.binOp .leq t x y t') ty w (.bool (decide (m ≤ n))) := q_bin hx hy (by simp [binOp, Op.intCmp])
theorem q_gtrI (hx : E.ev x = some (I m)) (hy : E.ev y = some (I n)) : Runs P E (.binOp .gtr t x y t') ty w (.bool (decide (n < m))) := q_bin hx hy (by simp [binOp, Op.intCmp])
theorem q_geqI (hx : E.ev x = some (I m)) (hy : E.ev y = some (I n)) : Runs P E (.binOp .geq t x y t') ty w (.bool (decide (n ≤ m))) := q_bin hx hy (by simp [binOp, Op.intCmp])
theorem q_eqlI (hx : E.ev x = some (I m)) (hy : E.ev y = some (I n)) : Runs P E (.binOp .eql t x y t') ty w (.bool (decide (m = n))) := by
  refine q_bin hx hy ?_
  simp only [binOp, Op.intCmp]
  by_cases h : m = n <;> simp [h]
theorem q_neqI (hx : E.ev x = some (I m)) (hy : E.ev y = some (I n)) : Runs P E (.binOp .neq t x y t') ty w (.bool (decide (m ≠ n))) := by
  refine q_bin hx hy ?_
  simp only [binOp, Op.intCmp]
  by_cases h : m = n <;> simp [h]
end

/-! whole numbers without a sign -/
section
variable {k : IntKind} {p q : BitVec k.bits}
abbrev UV (k : IntKind) (p : BitVec k.bits) : Value := .int k p.toNat
theorem toNat_mod {n : Nat} (p : BitVec n) : (p.toNat : Int) % (2 ^ n : Int) = p.toNat := by
  have := p.isLt
  rw [Int.emod_eq_of_lt (by omega) (by exact_mod_cast this)]
theorem q_addU (hk : k.signed = false) (hx : E.ev x = some (UV k p)) (hy : E.ev y = some (UV k q)) : Runs P E (.binOp .add t x y t') ty w (UV k (p + q)) := by
  refine q_bin hx hy ?_
  simp only [binOp, Op.intArith, wrapU k hk, BitVec.toNat_add]
  simp
theorem q_subU (hk : k.signed = false) (hx : E.ev x = some (UV k p)) (hy : E.ev y = some (UV k q)) : Runs P E (.binOp .sub t x y t') ty w (UV k (p - q)) := by
  refine q_bin hx hy ?_
  have h1 := p.isLt
  have h2 := q.isLt
  have e : ((p.toNat : Int) - q.toNat) % (2 ^ k.bits : Int) = (((2 ^ k.bits - q.toNat + p.toNat) % 2 ^ k.bits : Nat) : Int) := by
    rw [Int.natCast_emod, Int.natCast_add, Int.natCast_sub (by omega)]
    simp only [Int.natCast_pow, Int.cast_ofNat_Int]
    rw [show ((2 : Int) ^ k.bits - q.toNat + p.toNat) = (p.toNat - q.toNat) + 2 ^ k.bits by omega]
    simp
  simp only [binOp, Op.intArith, wrapU k hk, BitVec.toNat_sub, e]
  simp
theorem q_mulU (hk : k.signed = false) (hx : E.ev x = some (UV k p)) (hy : E.ev y = some (UV k q)) : Runs P E (.binOp .mul t x y t') ty w (UV k (p * q)) := by
  refine q_bin hx hy ?_
  simp only [binOp, Op.intArith, wrapU k hk, BitVec.toNat_mul]
  simp
theorem ofInt_toNat {n : Nat} (p : BitVec n) : BitVec.ofInt n (p.toNat : Int) = p := by
  simp [BitVec.ofInt_natCast]
theorem q_andU (hk : k.signed = false) (hx : E.ev x = some (UV k p)) (hy : E.ev y = some (UV k q)) : Runs P E (.binOp .and t x y t') ty w (UV k (p &&& q)) := by
  refine q_bin hx hy ?_
  simp only [binOp, Op.intBits, wrapU k hk, ofInt_toNat, toNat_mod]
  simp
theorem q_orU (hk : k.signed = false) (hx : E.ev x = some (UV k p)) (hy : E.ev y = some (UV k q)) : Runs P E (.binOp .or t x y t') ty w (UV k (p ||| q)) := by
  refine q_bin hx hy ?_
  simp only [binOp, Op.intBits, wrapU k hk, ofInt_toNat, toNat_mod]
  simp
theorem q_xorU (hk : k.signed = false) (hx : E.ev x = some (UV k p)) (hy : E.ev y = some (UV k q)) : Runs P E (.binOp .xor t x y t') ty w (UV k (p ^^^ q)) := by
  refine q_bin hx hy ?_
  simp only [binOp, Op.intBits, wrapU k hk, ofInt_toNat, toNat_mod]
  simp
theorem q_quoU (hk : k.signed = false) (hx : E.ev x = some (UV k p)) (hy : E.ev y = some (UV k q)) (h0 : 0 < q.toNat) : Runs P E (.binOp .quo t x y t') ty w (UV k (p / q)) := by
  refine q_bin hx hy ?_
  have e : (p.toNat : Int).tdiv q.toNat = ((p / q).toNat : Int) := by
    rw [BitVec.toNat_udiv]; rfl
  simp only [binOp, Op.intDiv, wrapU k hk, e, toNat_mod]
  simp [show ¬ q.toNat = 0 by omega]
theorem q_remU (hk : k.signed = false) (hx : E.ev x = some (UV k p)) (hy : E.ev y = some (UV k q)) (h0 : 0 < q.toNat) : Runs P E (.binOp .rem t x y t') ty w (UV k (p % q)) := by
  refine q_bin hx hy ?_
  have e : (p.toNat : Int).tmod q.toNat = ((p % q).toNat : Int) := by
    rw [BitVec.toNat_umod]; rfl
  simp only [binOp, Op.intDiv, e]
  simp [show ¬ q.toNat = 0 by omega]
theorem q_eqlU (hx : E.ev x = some (UV k p)) (hy : E.ev y = some (UV k q)) : Runs P E (.binOp .eql t x y t') ty w (.bool (decide (p = q))) := by
  refine q_bin hx hy ?_
  simp only [binOp, Op.intCmp]
  by_cases h : p = q
  · simp [h]
  · have : ¬ p.toNat = q.toNat := fun e => h (BitVec.eq_of_toNat_eq e)
    have : ((p.toNat : Int) == q.toNat) = false := by simp; omega
    simp [h, this]
theorem q_neqU (hx : E.ev x = some (UV k p)) (hy : E.ev y = some (UV k q)) : Runs P E (.binOp .neq t x y t') ty w (.bool (decide (p ≠ q))) := by
  refine q_bin hx hy ?_
  simp only [binOp, Op.intCmp]
  by_cases h : p = q
  · simp [h]
  · have : ¬ p.toNat = q.toNat := fun e => h (BitVec.eq_of_toNat_eq e)
    have : ((p.toNat : Int) == q.toNat) = false := by simp; omega
    simp [h, bne, this]
theorem q_lssU (hx : E.ev x = some (UV k p)) (hy : E.ev y = some (UV k q)) : Runs P E (.binOp .lss t x y t') ty w (.bool (decide (p.toNat < q.toNat))) := q_bin hx hy (by simp [binOp, Op.intCmp])
theorem q_leqU (hx : E.ev x = some (UV k p)) (hy : E.ev y = some (UV k q)) : Runs P E (.binOp .leq t x y t') ty w (.bool (decide (p.toNat ≤ q.toNat))) := q_bin hx hy (by simp [binOp, Op.intCmp])
theorem q_gtrU (hx : E.ev x = some (UV k p)) (hy : E.ev y = some (UV k q)) : Runs P E (.binOp .gtr t x y t') ty w (.bool (decide (q.toNat < p.toNat))) := q_bin hx hy (by simp [binOp, Op.intCmp])
theorem q_geqU (hx : E.ev x = some (UV k p)) (hy : E.ev y = some (UV k q)) : Runs P E (.binOp .geq t x y t') ty w (.bool (decide (q.toNat ≤ p.toNat))) := q_bin hx hy (by simp [binOp, Op.intCmp])
theorem q_shift {op : BinOp} {k k' : IntKind} {m n : Int} {v : Value} (hop : op = .shl ∨ op = .shr) (hx : E.ev x = some (.int k m)) (hy : E.ev y = some (.int k' n))
    (hr : (Op.shift op k m k' n).run P w = .ok v w) : Runs P E (.binOp op t x y t') ty w v := by
  intro ρ dst pos af g hρ
  simp only [execOp, hρ _ _ hx, hρ _ _ hy]
  rcases hop with rfl | rfl <;> simp [eqGuard, binOp, hr]
theorem q_shrU {k' : IntKind} {n : Nat} (hx : E.ev x = some (UV k p)) (hy : E.ev y = some (.int k' n)) : Runs P E (.binOp .shr t x y t') ty w (UV k (p >>> n)) := by
  refine q_shift (.inr rfl) hx hy ?_
  have e : (p.toNat : Int).fdiv (2 ^ min n k.bits) = ((p >>> n).toNat : Int) := by
    rw [BitVec.toNat_ushiftRight, Nat.shiftRight_eq_div_pow]
    rw [show ((2 : Int) ^ min n k.bits) = ((2 ^ min n k.bits : Nat) : Int) by simp]
    rw [Int.fdiv_eq_ediv_of_nonneg _ (Int.natCast_nonneg _), ← Int.natCast_ediv]
    congr 1
    rcases Nat.le_total n k.bits with h | h
    · rw [Nat.min_eq_left h]
    · rw [Nat.min_eq_right h]
      have h1 := p.isLt
      rw [Nat.div_eq_of_lt h1, Nat.div_eq_of_lt (Nat.lt_of_lt_of_le h1 (Nat.pow_le_pow_right (by omega) h))]
  simp only [Op.shift]
  rw [if_neg (by omega)]
  simp [e]
theorem q_shlU (hk : k.signed = false) {k' : IntKind} {n : Nat} (hx : E.ev x = some (UV k p)) (hy : E.ev y = some (.int k' n)) : Runs P E (.binOp .shl t x y t') ty w (UV k (p <<< n)) := by
  refine q_shift (.inl rfl) hx hy ?_
  have e : ((p.toNat : Int) * 2 ^ min n k.bits) % 2 ^ k.bits = ((p <<< n).toNat : Int) := by
    rw [BitVec.toNat_shiftLeft, Nat.shiftLeft_eq]
    rw [Int.natCast_emod, Int.natCast_mul]
    simp only [Int.natCast_pow, Int.cast_ofNat_Int]
    rcases Nat.le_total n k.bits with h | h
    · rw [Nat.min_eq_left h]
    · rw [Nat.min_eq_right h]
      have h2 : ((2 : Int) ^ n) = 2 ^ k.bits * 2 ^ (n - k.bits) := by rw [← Int.pow_add]; congr 1; omega
      rw [h2]
      have h3 : ((p.toNat : Int) * (2 ^ k.bits * 2 ^ (n - k.bits))) = 2 ^ k.bits * (p.toNat * 2 ^ (n - k.bits)) := by
        rw [← Int.mul_assoc, Int.mul_comm (p.toNat : Int) (2 ^ k.bits), Int.mul_assoc]
      rw [h3]
      simp
  simp only [Op.shift]
  rw [if_neg (by omega)]
  simp [wrapU k hk, e]
end

/-! conversions -/
theorem q_conv {k k' : IntKind} {n : Int} (hs : P.underlying t = some (.int k)) (hd : P.underlying t' = some (.int k')) (hx : E.ev x = some (.int k n)) :
    Runs P E (.convert t t' x) ty w (.int k' (k'.wrap n)) := by
  intro ρ dst pos af g hρ
  simp [execOp, hρ _ _ hx, convert, run_underlying hs, run_underlying hd, Conv.intToInt]
end
end Go.Proofs.YtipjpbfledddaaaDoor
