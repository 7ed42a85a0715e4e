/- The operations by the kinds of their numbers; loads and stores of cells that are alike; the moves of a walk. -/
import Derived.Test.YtipjpbfledddaaaDoorLf
namespace Go.Proofs.YtipjpbfledddaaaDoor
open Go
set_option linter.unusedVariables false
set_option linter.unusedSimpArgs false

section
variable {P : Program} {E : Env} {ty t t' : TypeId} {w : World} {x y : Operand} {M : List Nat} {w0 : World} {Hs : List Hl}

section
variable {p q : BitVec 8}
theorem q_add8 (hx : E.ev x = some (B8 p)) (hy : E.ev y = some (B8 q)) : Runs P E (.binOp .add t x y t') ty w (B8 (p + q)) := q_addU (k := .u8) rfl hx hy
theorem q_sub8 (hx : E.ev x = some (B8 p)) (hy : E.ev y = some (B8 q)) : Runs P E (.binOp .sub t x y t') ty w (B8 (p - q)) := q_subU (k := .u8) rfl hx hy
theorem q_mul8 (hx : E.ev x = some (B8 p)) (hy : E.ev y = some (B8 q)) : Runs P E (.binOp .mul t x y t') ty w (B8 (p * q)) := q_mulU (k := .u8) rfl hx hy
theorem q_and8 (hx : E.ev x = some (B8 p)) (hy : E.ev y = some (B8 q)) : Runs P E (.binOp .and t x y t') ty w (B8 (p &&& q)) := q_andU (k := .u8) rfl hx hy
theorem q_or8 (hx : E.ev x = some (B8 p)) (hy : E.ev y = some (B8 q)) : Runs P E (.binOp .or t x y t') ty w (B8 (p ||| q)) := q_orU (k := .u8) rfl hx hy
theorem q_xor8 (hx : E.ev x = some (B8 p)) (hy : E.ev y = some (B8 q)) : Runs P E (.binOp .xor t x y t') ty w (B8 (p ^^^ q)) := q_xorU (k := .u8) rfl hx hy
theorem q_quo8 (hx : E.ev x = some (B8 p)) (hy : E.ev y = some (B8 q)) (h0 : 0 < q.toNat) : Runs P E (.binOp .quo t x y t') ty w (B8 (p / q)) := q_quoU (k := .u8) rfl hx hy h0
theorem q_rem8 (hx : E.ev x = some (B8 p)) (hy : E.ev y = some (B8 q)) (h0 : 0 < q.toNat) : Runs P E (.binOp .rem t x y t') ty w (B8 (p % q)) := q_remU (k := .u8) rfl hx hy h0
theorem q_eql8 (hx : E.ev x = some (B8 p)) (hy : E.ev y = some (B8 q)) : Runs P E (.binOp .eql t x y t') ty w (.bool (decide (p = q))) := q_eqlU (k := .u8) hx hy
theorem q_neq8 (hx : E.ev x = some (B8 p)) (hy : E.ev y = some (B8 q)) : Runs P E (.binOp .neq t x y t') ty w (.bool (decide (p ≠ q))) := q_neqU (k := .u8) hx hy
theorem q_lss8 (hx : E.ev x = some (B8 p)) (hy : E.ev y = some (B8 q)) : Runs P E (.binOp .lss t x y t') ty w (.bool (decide (p.toNat < q.toNat))) := q_lssU (k := .u8) hx hy
theorem q_leq8 (hx : E.ev x = some (B8 p)) (hy : E.ev y = some (B8 q)) : Runs P E (.binOp .leq t x y t') ty w (.bool (decide (p.toNat ≤ q.toNat))) := q_leqU (k := .u8) hx hy
theorem q_gtr8 (hx : E.ev x = some (B8 p)) (hy : E.ev y = some (B8 q)) : Runs P E (.binOp .gtr t x y t') ty w (.bool (decide (q.toNat < p.toNat))) := q_gtrU (k := .u8) hx hy
theorem q_geq8 (hx : E.ev x = some (B8 p)) (hy : E.ev y = some (B8 q)) : Runs P E (.binOp .geq t x y t') ty w (.bool (decide (q.toNat ≤ p.toNat))) := q_geqU (k := .u8) hx hy
theorem q_shr8 {k' : IntKind} {n : Nat} (hx : E.ev x = some (B8 p)) (hy : E.ev y = some (.int k' n)) : Runs P E (.binOp .shr t x y t') ty w (B8 (p >>> n)) := q_shrU (k := .u8) hx hy
theorem q_shl8 {k' : IntKind} {n : Nat} (hx : E.ev x = some (B8 p)) (hy : E.ev y = some (.int k' n)) : Runs P E (.binOp .shl t x y t') ty w (B8 (p <<< n)) := q_shlU (k := .u8) rfl hx hy
theorem q_cvI8 {m : Int} (hs : P.underlying t = some (.int .i64)) (hd : P.underlying t' = some (.int .u8)) (hx : E.ev x = some (I m)) : Runs P E (.convert t t' x) ty w (B8 (BitVec.ofInt 8 m)) := by
  have e : IntKind.wrap .u8 m = ((BitVec.ofInt 8 m).toNat : Int) := by
    rw [wrapU _ rfl, BitVec.toNat_ofInt]
    have : 0 ≤ m % ((2 ^ 8 : Nat) : Int) := Int.emod_nonneg _ (by decide)
    rw [Int.toNat_of_nonneg this]
    rfl
  have h := q_conv (ty := ty) (w := w) hs hd hx
  rw [e] at h
  exact h
theorem q_cv8_32 (hs : P.underlying t = some (.int .u8)) (hd : P.underlying t' = some (.int .u32)) (hx : E.ev x = some (B8 p)) : Runs P E (.convert t t' x) ty w (U32 (p.setWidth 32)) := by
  have e : IntKind.wrap .u32 (p.toNat : Int) = ((p.setWidth 32).toNat : Int) := by
    rw [wrapU _ rfl, BitVec.toNat_setWidth]
    rfl
  have h := q_conv (ty := ty) (w := w) hs hd hx
  rw [e] at h
  exact h
theorem q_cv8_64 (hs : P.underlying t = some (.int .u8)) (hd : P.underlying t' = some (.int .u64)) (hx : E.ev x = some (B8 p)) : Runs P E (.convert t t' x) ty w (U64 (p.setWidth 64)) := by
  have e : IntKind.wrap .u64 (p.toNat : Int) = ((p.setWidth 64).toNat : Int) := by
    rw [wrapU _ rfl, BitVec.toNat_setWidth]
    rfl
  have h := q_conv (ty := ty) (w := w) hs hd hx
  rw [e] at h
  exact h
theorem q_cv8_I (hs : P.underlying t = some (.int .u8)) (hd : P.underlying t' = some (.int .i64)) (hx : E.ev x = some (B8 p)) (hp : p.toNat ≤ 9223372036854775807) : Runs P E (.convert t t' x) ty w (I p.toNat) := by
  have h := q_conv (ty := ty) (w := w) hs hd hx
  rw [wrap_i64 (by omega) (by omega)] at h
  exact h
end
section
variable {p q : BitVec 32}
theorem q_add32 (hx : E.ev x = some (U32 p)) (hy : E.ev y = some (U32 q)) : Runs P E (.binOp .add t x y t') ty w (U32 (p + q)) := q_addU (k := .u32) rfl hx hy
theorem q_sub32 (hx : E.ev x = some (U32 p)) (hy : E.ev y = some (U32 q)) : Runs P E (.binOp .sub t x y t') ty w (U32 (p - q)) := q_subU (k := .u32) rfl hx hy
theorem q_mul32 (hx : E.ev x = some (U32 p)) (hy : E.ev y = some (U32 q)) : Runs P E (.binOp .mul t x y t') ty w (U32 (p * q)) := q_mulU (k := .u32) rfl hx hy
theorem q_and32 (hx : E.ev x = some (U32 p)) (hy : E.ev y = some (U32 q)) : Runs P E (.binOp .and t x y t') ty w (U32 (p &&& q)) := q_andU (k := .u32) rfl hx hy
theorem q_or32 (hx : E.ev x = some (U32 p)) (hy : E.ev y = some (U32 q)) : Runs P E (.binOp .or t x y t') ty w (U32 (p ||| q)) := q_orU (k := .u32) rfl hx hy
theorem q_xor32 (hx : E.ev x = some (U32 p)) (hy : E.ev y = some (U32 q)) : Runs P E (.binOp .xor t x y t') ty w (U32 (p ^^^ q)) := q_xorU (k := .u32) rfl hx hy
theorem q_quo32 (hx : E.ev x = some (U32 p)) (hy : E.ev y = some (U32 q)) (h0 : 0 < q.toNat) : Runs P E (.binOp .quo t x y t') ty w (U32 (p / q)) := q_quoU (k := .u32) rfl hx hy h0
theorem q_rem32 (hx : E.ev x = some (U32 p)) (hy : E.ev y = some (U32 q)) (h0 : 0 < q.toNat) : Runs P E (.binOp .rem t x y t') ty w (U32 (p % q)) := q_remU (k := .u32) rfl hx hy h0
theorem q_eql32 (hx : E.ev x = some (U32 p)) (hy : E.ev y = some (U32 q)) : Runs P E (.binOp .eql t x y t') ty w (.bool (decide (p = q))) := q_eqlU (k := .u32) hx hy
theorem q_neq32 (hx : E.ev x = some (U32 p)) (hy : E.ev y = some (U32 q)) : Runs P E (.binOp .neq t x y t') ty w (.bool (decide (p ≠ q))) := q_neqU (k := .u32) hx hy
theorem q_lss32 (hx : E.ev x = some (U32 p)) (hy : E.ev y = some (U32 q)) : Runs P E (.binOp .lss t x y t') ty w (.bool (decide (p.toNat < q.toNat))) := q_lssU (k := .u32) hx hy
theorem q_leq32 (hx : E.ev x = some (U32 p)) (hy : E.ev y = some (U32 q)) : Runs P E (.binOp .leq t x y t') ty w (.bool (decide (p.toNat ≤ q.toNat))) := q_leqU (k := .u32) hx hy
theorem q_gtr32 (hx : E.ev x = some (U32 p)) (hy : E.ev y = some (U32 q)) : Runs P E (.binOp .gtr t x y t') ty w (.bool (decide (q.toNat < p.toNat))) := q_gtrU (k := .u32) hx hy
theorem q_geq32 (hx : E.ev x = some (U32 p)) (hy : E.ev y = some (U32 q)) : Runs P E (.binOp .geq t x y t') ty w (.bool (decide (q.toNat ≤ p.toNat))) := q_geqU (k := .u32) hx hy
theorem q_shr32 {k' : IntKind} {n : Nat} (hx : E.ev x = some (U32 p)) (hy : E.ev y = some (.int k' n)) : Runs P E (.binOp .shr t x y t') ty w (U32 (p >>> n)) := q_shrU (k := .u32) hx hy
theorem q_shl32 {k' : IntKind} {n : Nat} (hx : E.ev x = some (U32 p)) (hy : E.ev y = some (.int k' n)) : Runs P E (.binOp .shl t x y t') ty w (U32 (p <<< n)) := q_shlU (k := .u32) rfl hx hy
theorem q_cvI32 {m : Int} (hs : P.underlying t = some (.int .i64)) (hd : P.underlying t' = some (.int .u32)) (hx : E.ev x = some (I m)) : Runs P E (.convert t t' x) ty w (U32 (BitVec.ofInt 32 m)) := by
  have e : IntKind.wrap .u32 m = ((BitVec.ofInt 32 m).toNat : Int) := by
    rw [wrapU _ rfl, BitVec.toNat_ofInt]
    have : 0 ≤ m % ((2 ^ 32 : Nat) : Int) := Int.emod_nonneg _ (by decide)
    rw [Int.toNat_of_nonneg this]
    rfl
  have h := q_conv (ty := ty) (w := w) hs hd hx
  rw [e] at h
  exact h
theorem q_cv32_8 (hs : P.underlying t = some (.int .u32)) (hd : P.underlying t' = some (.int .u8)) (hx : E.ev x = some (U32 p)) : Runs P E (.convert t t' x) ty w (B8 (p.setWidth 8)) := by
  have e : IntKind.wrap .u8 (p.toNat : Int) = ((p.setWidth 8).toNat : Int) := by
    rw [wrapU _ rfl, BitVec.toNat_setWidth]
    rfl
  have h := q_conv (ty := ty) (w := w) hs hd hx
  rw [e] at h
  exact h
theorem q_cv32_64 (hs : P.underlying t = some (.int .u32)) (hd : P.underlying t' = some (.int .u64)) (hx : E.ev x = some (U32 p)) : Runs P E (.convert t t' x) ty w (U64 (p.setWidth 64)) := by
  have e : IntKind.wrap .u64 (p.toNat : Int) = ((p.setWidth 64).toNat : Int) := by
    rw [wrapU _ rfl, BitVec.toNat_setWidth]
    rfl
  have h := q_conv (ty := ty) (w := w) hs hd hx
  rw [e] at h
  exact h
theorem q_cv32_I (hs : P.underlying t = some (.int .u32)) (hd : P.underlying t' = some (.int .i64)) (hx : E.ev x = some (U32 p)) (hp : p.toNat ≤ 9223372036854775807) : Runs P E (.convert t t' x) ty w (I p.toNat) := by
  have h := q_conv (ty := ty) (w := w) hs hd hx
  rw [wrap_i64 (by omega) (by omega)] at h
  exact h
end
section
variable {p q : BitVec 64}
theorem q_add64 (hx : E.ev x = some (U64 p)) (hy : E.ev y = some (U64 q)) : Runs P E (.binOp .add t x y t') ty w (U64 (p + q)) := q_addU (k := .u64) rfl hx hy
theorem q_sub64 (hx : E.ev x = some (U64 p)) (hy : E.ev y = some (U64 q)) : Runs P E (.binOp .sub t x y t') ty w (U64 (p - q)) := q_subU (k := .u64) rfl hx hy
theorem q_mul64 (hx : E.ev x = some (U64 p)) (hy : E.ev y = some (U64 q)) : Runs P E (.binOp .mul t x y t') ty w (U64 (p * q)) := q_mulU (k := .u64) rfl hx hy
theorem q_and64 (hx : E.ev x = some (U64 p)) (hy : E.ev y = some (U64 q)) : Runs P E (.binOp .and t x y t') ty w (U64 (p &&& q)) := q_andU (k := .u64) rfl hx hy
theorem q_or64 (hx : E.ev x = some (U64 p)) (hy : E.ev y = some (U64 q)) : Runs P E (.binOp .or t x y t') ty w (U64 (p ||| q)) := q_orU (k := .u64) rfl hx hy
theorem q_xor64 (hx : E.ev x = some (U64 p)) (hy : E.ev y = some (U64 q)) : Runs P E (.binOp .xor t x y t') ty w (U64 (p ^^^ q)) := q_xorU (k := .u64) rfl hx hy
theorem q_quo64 (hx : E.ev x = some (U64 p)) (hy : E.ev y = some (U64 q)) (h0 : 0 < q.toNat) : Runs P E (.binOp .quo t x y t') ty w (U64 (p / q)) := q_quoU (k := .u64) rfl hx hy h0
theorem q_rem64 (hx : E.ev x = some (U64 p)) (hy : E.ev y = some (U64 q)) (h0 : 0 < q.toNat) : Runs P E (.binOp .rem t x y t') ty w (U64 (p % q)) := q_remU (k := .u64) rfl hx hy h0
theorem q_eql64 (hx : E.ev x = some (U64 p)) (hy : E.ev y = some (U64 q)) : Runs P E (.binOp .eql t x y t') ty w (.bool (decide (p = q))) := q_eqlU (k := .u64) hx hy
theorem q_neq64 (hx : E.ev x = some (U64 p)) (hy : E.ev y = some (U64 q)) : Runs P E (.binOp .neq t x y t') ty w (.bool (decide (p ≠ q))) := q_neqU (k := .u64) hx hy
theorem q_lss64 (hx : E.ev x = some (U64 p)) (hy : E.ev y = some (U64 q)) : Runs P E (.binOp .lss t x y t') ty w (.bool (decide (p.toNat < q.toNat))) := q_lssU (k := .u64) hx hy
theorem q_leq64 (hx : E.ev x = some (U64 p)) (hy : E.ev y = some (U64 q)) : Runs P E (.binOp .leq t x y t') ty w (.bool (decide (p.toNat ≤ q.toNat))) := q_leqU (k := .u64) hx hy
theorem q_gtr64 (hx : E.ev x = some (U64 p)) (hy : E.ev y = some (U64 q)) : Runs P E (.binOp .gtr t x y t') ty w (.bool (decide (q.toNat < p.toNat))) := q_gtrU (k := .u64) hx hy
theorem q_geq64 (hx : E.ev x = some (U64 p)) (hy : E.ev y = some (U64 q)) : Runs P E (.binOp .geq t x y t') ty w (.bool (decide (q.toNat ≤ p.toNat))) := q_geqU (k := .u64) hx hy
theorem q_shr64 {k' : IntKind} {n : Nat} (hx : E.ev x = some (U64 p)) (hy : E.ev y = some (.int k' n)) : Runs P E (.binOp .shr t x y t') ty w (U64 (p >>> n)) := q_shrU (k := .u64) hx hy
theorem q_shl64 {k' : IntKind} {n : Nat} (hx : E.ev x = some (U64 p)) (hy : E.ev y = some (.int k' n)) : Runs P E (.binOp .shl t x y t') ty w (U64 (p <<< n)) := q_shlU (k := .u64) rfl hx hy
theorem q_cvI64 {m : Int} (hs : P.underlying t = some (.int .i64)) (hd : P.underlying t' = some (.int .u64)) (hx : E.ev x = some (I m)) : Runs P E (.convert t t' x) ty w (U64 (BitVec.ofInt 64 m)) := by
  have e : IntKind.wrap .u64 m = ((BitVec.ofInt 64 m).toNat : Int) := by
    rw [wrapU _ rfl, BitVec.toNat_ofInt]
    have : 0 ≤ m % ((2 ^ 64 : Nat) : Int) := Int.emod_nonneg _ (by decide)
    rw [Int.toNat_of_nonneg this]
    rfl
  have h := q_conv (ty := ty) (w := w) hs hd hx
  rw [e] at h
  exact h
theorem q_cv64_8 (hs : P.underlying t = some (.int .u64)) (hd : P.underlying t' = some (.int .u8)) (hx : E.ev x = some (U64 p)) : Runs P E (.convert t t' x) ty w (B8 (p.setWidth 8)) := by
  have e : IntKind.wrap .u8 (p.toNat : Int) = ((p.setWidth 8).toNat : Int) := by
    rw [wrapU _ rfl, BitVec.toNat_setWidth]
    rfl
  have h := q_conv (ty := ty) (w := w) hs hd hx
  rw [e] at h
  exact h
theorem q_cv64_32 (hs : P.underlying t = some (.int .u64)) (hd : P.underlying t' = some (.int .u32)) (hx : E.ev x = some (U64 p)) : Runs P E (.convert t t' x) ty w (U32 (p.setWidth 32)) := by
  have e : IntKind.wrap .u32 (p.toNat : Int) = ((p.setWidth 32).toNat : Int) := by
    rw [wrapU _ rfl, BitVec.toNat_setWidth]
    rfl
  have h := q_conv (ty := ty) (w := w) hs hd hx
  rw [e] at h
  exact h
theorem q_cv64_I (hs : P.underlying t = some (.int .u64)) (hd : P.underlying t' = some (.int .i64)) (hx : E.ev x = some (U64 p)) (hp : p.toNat ≤ 9223372036854775807) : Runs P E (.convert t t' x) ty w (I p.toNat) := by
  have h := q_conv (ty := ty) (w := w) hs hd hx
  rw [wrap_i64 (by omega) (by omega)] at h
  exact h
end

/-! int, bit by bit -/
theorem q_shrI {m : Int} {k' : IntKind} {n : Nat} (c : Int) (hx : E.ev x = some (I m)) (hy : E.ev y = some (.int k' n)) (hn : n < 64) (hc : (2 : Int) ^ n = c) (h0 : 0 ≤ m) : Runs P E (.binOp .shr t x y t') ty w (I (m / c)) := by
  refine q_shift (.inr rfl) hx hy ?_
  simp only [Op.shift]
  rw [if_neg (by omega)]
  have e : min (n : Int).toNat (IntKind.bits .i64) = n := by simp [IntKind.bits]; omega
  simp only [e, hc]
  have hc0 : 0 ≤ c := by rw [← hc]; exact Int.pow_nonneg (by decide)
  rw [Int.fdiv_eq_ediv_of_nonneg _ hc0]
  rfl
theorem q_shlI {m : Int} {k' : IntKind} {n : Nat} (c : Int) (hx : E.ev x = some (I m)) (hy : E.ev y = some (.int k' n)) (hn : n < 64) (hc : (2 : Int) ^ n = c) (h : -9223372036854775808 ≤ m * c ∧ m * c ≤ 9223372036854775807) : Runs P E (.binOp .shl t x y t') ty w (I (m * c)) := by
  refine q_shift (.inl rfl) hx hy ?_
  simp only [Op.shift]
  rw [if_neg (by omega)]
  have e : min (n : Int).toNat (IntKind.bits .i64) = n := by simp [IntKind.bits]; omega
  simp only [e, hc, wrap_i64 h.1 h.2]
  rfl
theorem wrap_nat {n : Nat} (h : n < 9223372036854775808) : IntKind.i64.wrap (n : Int) = n := wrap_i64 (by omega) (by omega)
theorem ofInt_nat (a : Nat) : BitVec.ofInt 64 (a : Int) = BitVec.ofNat 64 a := by simp [BitVec.ofInt_natCast]
theorem q_andI {a b : Nat} (hx : E.ev x = some (I a)) (hy : E.ev y = some (I b)) (ha : a < 9223372036854775808) (hb : b < 9223372036854775808) : Runs P E (.binOp .and t x y t') ty w (I (a &&& b : Nat)) := by
  refine q_bin hx hy ?_
  have hlt : a &&& b < 9223372036854775808 := Nat.lt_of_le_of_lt Nat.and_le_left ha
  have e : binOp .and t (I a) (I b) = pure (.int .i64 (IntKind.i64.wrap ((BitVec.ofInt 64 (a : Int) &&& BitVec.ofInt 64 (b : Int)).toNat : Int))) := rfl
  rw [e, ofInt_nat, ofInt_nat, BitVec.toNat_and, BitVec.toNat_ofNat, BitVec.toNat_ofNat, Nat.mod_eq_of_lt (by omega), Nat.mod_eq_of_lt (by omega)]
  simp [wrap_nat hlt]
theorem q_orI {a b : Nat} (hx : E.ev x = some (I a)) (hy : E.ev y = some (I b)) (ha : a < 9223372036854775808) (hb : b < 9223372036854775808) : Runs P E (.binOp .or t x y t') ty w (I (a ||| b : Nat)) := by
  refine q_bin hx hy ?_
  have hlt : a ||| b < 2 ^ 63 := Nat.or_lt_two_pow (by omega) (by omega)
  have e : binOp .or t (I a) (I b) = pure (.int .i64 (IntKind.i64.wrap ((BitVec.ofInt 64 (a : Int) ||| BitVec.ofInt 64 (b : Int)).toNat : Int))) := rfl
  rw [e, ofInt_nat, ofInt_nat, BitVec.toNat_or, BitVec.toNat_ofNat, BitVec.toNat_ofNat, Nat.mod_eq_of_lt (by omega), Nat.mod_eq_of_lt (by omega)]
  simp [wrap_nat (n := a ||| b) (by omega)]
theorem q_xorI {a b : Nat} (hx : E.ev x = some (I a)) (hy : E.ev y = some (I b)) (ha : a < 9223372036854775808) (hb : b < 9223372036854775808) : Runs P E (.binOp .xor t x y t') ty w (I (a ^^^ b : Nat)) := by
  refine q_bin hx hy ?_
  have hlt : a ^^^ b < 2 ^ 63 := Nat.xor_lt_two_pow (by omega) (by omega)
  have e : binOp .xor t (I a) (I b) = pure (.int .i64 (IntKind.i64.wrap ((BitVec.ofInt 64 (a : Int) ^^^ BitVec.ofInt 64 (b : Int)).toNat : Int))) := rfl
  rw [e, ofInt_nat, ofInt_nat, BitVec.toNat_xor, BitVec.toNat_ofNat, BitVec.toNat_ofNat, Nat.mod_eq_of_lt (by omega), Nat.mod_eq_of_lt (by omega)]
  simp [wrap_nat (n := a ^^^ b) (by omega)]
theorem q_cvII {m : Int} (hs : P.underlying t = some (.int .i64)) (hd : P.underlying t' = some (.int .i64)) (hx : E.ev x = some (I m)) (h : -9223372036854775808 ≤ m ∧ m ≤ 9223372036854775807) : Runs P E (.convert t t' x) ty w (I m) := by
  have h' := q_conv (ty := ty) (w := w) hs hd hx
  rw [wrap_i64 h.1 h.2] at h'
  exact h'
theorem q_minI {m n : Int} {a1 a2 : TypeId} (hx : E.ev x = some (I m)) (hy : E.ev y = some (I n)) : Runs P E (.call ⟨.builtin .min, #[x, y], #[a1, a2]⟩) ty w (I (if n < m then n else m)) := by
  intro ρ dst pos af g hρ
  simp [execOp, resolve, invoke, builtin, hρ _ _ hx, hρ _ _ hy, Builtin.min_, Builtin.min2]
theorem q_maxI {m n : Int} {a1 a2 : TypeId} (hx : E.ev x = some (I m)) (hy : E.ev y = some (I n)) : Runs P E (.call ⟨.builtin .max, #[x, y], #[a1, a2]⟩) ty w (I (if m < n then n else m)) := by
  intro ρ dst pos af g hρ
  simp [execOp, resolve, invoke, builtin, hρ _ _ hx, hρ _ _ hy, Builtin.max_, Builtin.max2]

/-! ### places, by natural numbers -/
theorem q_idx1 {e : TypeId} {v : Value} {n bb : Nat} {z : Value} {kk : IntKind} {i : Int} (j : Nat) (hT : P.underlying t = some (.slice e)) (he : TI P e 1 bb z) (hx : E.ev x = some v) (hy : E.ev y = some (.int kk i)) (hj : i = j)
    (hr : Shp v n) (hi : j < n) : Runs P E (.indexAddr t x y) ty w (.pointer (some (v.cellAt j))) := by
  have := q_idx (P := P) (ty := ty) (w := w) hT he hx hy hr (by omega)
  subst hj
  simpa using this
theorem q_idxk {e : TypeId} {v : Value} {n k bb : Nat} {z : Value} {kk : IntKind} {i : Int} (j : Nat) (hT : P.underlying t = some (.slice e)) (he : TI P e k bb z) (hx : E.ev x = some v) (hy : E.ev y = some (.int kk i)) (hj : i = j)
    (hr : Shp v n) (hi : j < n) : Runs P E (.indexAddr t x y) ty w (.pointer (some (v.cellAt (j * k)))) := by
  have := q_idx (P := P) (ty := ty) (w := w) hT he hx hy hr (by omega)
  subst hj
  simpa using this
theorem q_idxA1 {e : TypeId} {len bb : Nat} {z : Value} {kk : IntKind} {i : Int} {b : Nat} (j : Nat) (hT : P.underlying t = some (.array len e)) (he : TI P e 1 bb z) (hx : E.ev x = some (.pointer (some ⟨b, 0, none⟩))) (hy : E.ev y = some (.int kk i)) (hj : i = j)
    (hi : j < len) : Runs P E (.indexAddr t x y) ty w (.pointer (some ⟨b, j, none⟩)) := by
  have := q_idxA (P := P) (ty := ty) (w := w) hT he hx hy (by omega)
  subst hj
  simpa using this
theorem q_idxAo {e : TypeId} {len bb : Nat} {z : Value} {kk : IntKind} {i : Int} {b o : Nat} (j : Nat) (hT : P.underlying t = some (.array len e)) (he : TI P e 1 bb z) (hx : E.ev x = some (.pointer (some ⟨b, o, none⟩))) (hy : E.ev y = some (.int kk i)) (hj : i = j)
    (hi : j < len) : Runs P E (.indexAddr t x y) ty w (.pointer (some ⟨b, o + j, none⟩)) := by
  have := q_idxA (P := P) (ty := ty) (w := w) hT he hx hy (by omega)
  subst hj
  simpa using this
theorem q_fld {fs : Array Field} {f : Field} {i k bb : Nat} {z : Value} {b : Nat} (o : Nat) (hT : P.underlying t = some (.struct fs)) (hf : fs[i]? = some f) (ho : f.offset = o) (he : TI P f.type (k + 1) bb z)
    (hx : E.ev x = some (.pointer (some ⟨b, 0, none⟩))) : Runs P E (.fieldAddr t x i) ty w (.pointer (some ⟨b, o, none⟩)) := by
  have := q_fieldAddr (P := P) (ty := ty) (w := w) hT hf he hx
  rw [ho] at this
  simpa using this

/-! ### cells that are alike -/
section
variable {α : Type} {f : α → Value} {l : List α}
theorem q_loadBm {d : TypeDesc} {b o T : Nat} {fr : Nat × Nat} (d0 : α) (hH : HS M w0 w Hs) (i : Nat) (hi : nth? Hs i = some [(b, Obj.cells (l.map f).toArray T fr)])
    (hT : P.underlying t = some d) (hf : flat d = true) (hx : E.ev x = some (.pointer (some ⟨b, o, none⟩))) (hu : o < l.length) : Runs P E (.load t x) ty w (f (l.getD o d0)) :=
  q_loadB hH i hi (List.mem_singleton.2 rfl) hT hf hx (by simp [hu, List.getD])
theorem q_loadRm {d : TypeDesc} {v : Value} {n j : Nat} (d0 : α) (hT : P.underlying t = some d) (hf : flat d = true) (hx : E.ev x = some (.pointer (some (v.cellAt j))))
    (hr : Rd [] w v n 1 (l.map f)) (hj : j < l.length) : Runs P E (.load t x) ty w (f (l.getD j d0)) :=
  q_loadR hT hf hx hr (by have := hr.len; simp at this; omega) (by simp [hj, List.getD])
theorem q_indexm {e : TypeId} {len bb : Nat} {z : Value} {kk : IntKind} {i : Int} {d : TypeDesc} (d0 : α) (j : Nat) (hT : P.underlying t = some (.array len e)) (he : TI P e 1 bb z) (hd : P.underlying e = some d) (hf : flat d = true)
    (hx : E.ev x = some (.agg (l.map f).toArray)) (hy : E.ev y = some (.int kk i)) (hj : i = j)
    (hi : j < len) (hl : j < l.length) : Runs P E (.index t x y) ty w (f (l.getD j d0)) := by
  subst hj
  exact q_index hT he hd hf hx hy (by omega) (by simp [hl, List.getD])
theorem lo_store1m {b o T bb : Nat} {z : Value} {fr : Nat × Nat} {rest : List Hl} {u : α} (hH : HS M w0 w ([(b, Obj.cells (l.map f).toArray T fr)] :: rest)) (he : TI P t 1 bb z)
    (hx : E.ev x = some (.pointer (some ⟨b, o, none⟩))) (hy : E.ev y = some (f u)) (ho : o < l.length) (h1 : (f u).oneCell' = true) (hf : soft fr (l.map f).length := by exact soft0 _) :
    Lo P E (.store t x y) ty w (fun _ w' => HS M w0 w' ([(b, Obj.cells ((l.set o u).map f).toArray T fr)] :: rest)) := by
  have hc : (f u).cells = #[f u] := by
    cases h : f u <;> first | rfl | (rw [h] at h1; cases h1)
  have := lo_store (ty := ty) hH he hx hy (by rw [hc]; rfl) (by simp; omega) hf (by rw [hc]; simpa using h1)
  rw [hc] at this
  simpa [putAt, List.map_set] using this
theorem lo_storeAm {b T k bb : Nat} {z : Value} {fr : Nat × Nat} {c : List Value} {rest : List Hl} {l' : List Value} (hH : HS M w0 w ([(b, Obj.cells c.toArray T fr)] :: rest)) (he : TI P t k bb z)
    (hx : E.ev x = some (.pointer (some ⟨b, 0, none⟩))) (hy : E.ev y = some (.agg l'.toArray)) (hk : l'.length = k) (hc : c.length = k) (h1 : ∀ u ∈ l', u.oneCell' = true) (hf : soft fr c.length := by exact soft0 _) :
    Lo P E (.store t x y) ty w (fun _ w' => HS M w0 w' ([(b, Obj.cells l'.toArray T fr)] :: rest)) := by
  have := lo_store (ty := ty) hH he hx hy (by simpa [Value.cells] using hk) (by omega) hf (by simpa [Value.cells] using h1)
  simp only [Value.cells] at this
  rw [putAt_eq _ _ _ (by simp; omega)] at this
  have e : c.drop l'.length = [] := List.drop_eq_nil_of_le (by omega)
  simpa [e] using this
end
theorem lo_store1 {b o T bb : Nat} {z : Value} {fr : Nat × Nat} {rest : List Hl} {u : Value} {c : List Value} (hH : HS M w0 w ([(b, Obj.cells c.toArray T fr)] :: rest)) (he : TI P t 1 bb z)
    (hx : E.ev x = some (.pointer (some ⟨b, o, none⟩))) (hy : E.ev y = some u) (ho : o < c.length) (h1 : u.oneCell' = true) (hf : soft fr c.length := by exact soft0 _) :
    Lo P E (.store t x y) ty w (fun _ w' => HS M w0 w' ([(b, Obj.cells (c.set o u).toArray T fr)] :: rest)) := by
  have hc : u.cells = #[u] := by
    cases h : u <;> first | rfl | (rw [h] at h1; cases h1)
  have := lo_store (ty := ty) hH he hx hy (by rw [hc]; rfl) (by omega) hf (by rw [hc]; simpa using h1)
  rw [hc] at this
  simpa [putAt] using this
theorem lo_storeP {b o T k bb : Nat} {z : Value} {fr : Nat × Nat} {c l' : List Value} {rest : List Hl} (hH : HS M w0 w ([(b, Obj.cells c.toArray T fr)] :: rest)) (he : TI P t k bb z)
    (hx : E.ev x = some (.pointer (some ⟨b, o, none⟩))) (hy : E.ev y = some (.agg l'.toArray)) (hk : l'.length = k) (ho : o + k ≤ c.length) (h1 : ∀ u ∈ l', u.oneCell' = true) (hf : soft fr c.length := by exact soft0 _) :
    Lo P E (.store t x y) ty w (fun _ w' => HS M w0 w' ([(b, Obj.cells (putAt c o l').toArray T fr)] :: rest)) := by
  have := lo_store (ty := ty) hH he hx hy (by simpa [Value.cells] using hk) ho hf (by simpa [Value.cells] using h1)
  simpa [Value.cells] using this

theorem lo_allocA {k bb : Nat} {c : List Value} (hH : HS M w0 w Hs) (he : TI P t k bb (.agg c.toArray)) :
    Lo P E (.alloc t) ty w (fun v w' => ∃ b, v = .pointer (some ⟨b, 0, none⟩) ∧ HS M w0 w' ([(b, .cells c.toArray t (0, 0))] :: Hs)) := lo_alloc hH he
theorem lo_alloc1 {bb : Nat} {z : Value} (hH : HS M w0 w Hs) (he : TI P t 1 bb z) (h1 : z.oneCell' = true) :
    Lo P E (.alloc t) ty w (fun v w' => ∃ b, v = .pointer (some ⟨b, 0, none⟩) ∧ HS M w0 w' ([(b, .cells [z].toArray t (0, 0))] :: Hs)) := by
  have hc : z.cells = #[z] := by
    cases h : z <;> first | rfl | (rw [h] at h1; cases h1)
  have := lo_alloc (E := E) (ty := ty) hH he
  rw [hc] at this
  exact this
theorem lo_boxA {c : List Value} (hH : HS M w0 w Hs) (hx : E.ev x = some (.agg c.toArray)) :
    Lo P E (.box t x) ty w (fun v' w' => ∃ b, v' = .pointer (some ⟨b, 0, none⟩) ∧ HS M w0 w' ([(b, .cells c.toArray t (0, 0))] :: Hs)) := lo_box hH hx
theorem lo_box1 {z : Value} (hH : HS M w0 w Hs) (hx : E.ev x = some z) (h1 : z.oneCell' = true) :
    Lo P E (.box t x) ty w (fun v' w' => ∃ b, v' = .pointer (some ⟨b, 0, none⟩) ∧ HS M w0 w' ([(b, .cells [z].toArray t (0, 0))] :: Hs)) := by
  have hc : z.cells = #[z] := by
    cases h : z <;> first | rfl | (rw [h] at h1; cases h1)
  have := lo_box (P := P) (t := t) (ty := ty) hH hx
  rw [hc] at this
  exact this

/-! ### the moves of a walk -/
theorem any_go {id : Nat} {ops : Array Oper} {Q : Exit → Act → World → Prop} {a : Act} (hm : P.follows .mixedOrders = true) (keep : Nat → Bool) (hH : HS M w0 w Hs)
    (h : ∀ w', HS M w0 w' Hs → wpK P .any ops Q (fun w => HS M w0 w Hs) keep ops.size (Array.replicate ops.size false) a w') : (Code.region id ops true).wp P Q a w :=
  any_begin (fun w => HS M w0 w Hs) keep hm (h _ hH.drew)
end
theorem then_exit {K : Act → World → Prop} {Q : Exit → Act → World → Prop} {id : Nat} {a : Act} {w : World} (h : Q (.exit id) a w) : Exit.then K Q (.exit id) a w := h
theorem then_ret {K : Act → World → Prop} {Q : Exit → Act → World → Prop} {a : Act} {w : World} (h : Q .ret a w) : Exit.then K Q .ret a w := h
theorem block_ret {Q : Exit → Act → World → Prop} {id : Nat} {a : Act} {w : World} (h : Q .ret a w) : Exit.inBlock id Q .ret a w := h
theorem block_normal {Q : Exit → Act → World → Prop} {id : Nat} {a : Act} {w : World} (h : Q .normal a w) : Exit.inBlock id Q .normal a w := h
theorem exit_here {id : Nat} {Q : Exit → Act → World → Prop} {a : Act} {w : World} (h : Q .normal a w) : Exit.inBlock id Q (.exit id) a w := by
  simp only [Exit.inBlock, if_true]; exact h
theorem exit_out {id id' : Nat} {Q : Exit → Act → World → Prop} {a : Act} {w : World} (hne : Nat.beq id' id = false) (h : Q (.exit id') a w) : Exit.inBlock id Q (.exit id') a w := by
  have : id' ≠ id := fun e => by subst e; simp at hne
  simp only [Exit.inBlock, if_neg this]; exact h
end Go.Proofs.YtipjpbfledddaaaDoor
