/- A text's bytes. -/
import Derived.Test.YtipjpbfledddaaaDoorMe
namespace Go.Proofs.YtipjpbfledddaaaDoor
open Go
theorem Own.toS {e : Nat} {v : Value} {s : ByteArray} {N : Hl} (h : Own e 1 v s.size ((sBytes s).map B8) N) : Ow B8 e v (sBytes s) N := by
  unfold Ow
  rw [sBytes_length]
  exact h
theorem src_stringB {P : Program} {w : World} (s : ByteArray) : Src P w (.string s) 1 (sBytes s).length ((sBytes s).map B8) := by
  rw [sBytes_length]
  exact src_string s
theorem ofNat_succ64 (a : Nat) : BitVec.ofNat 64 a + 1#64 = BitVec.ofNat 64 (a + 1) := by
  apply BitVec.eq_of_toNat_eq
  simp

/-- what is derived in one round, and in j rounds -/
def dtx (s : Bs) (n j : Nat) : Bs := beB (BitVec.ofNat 64 (j + 1)) 4 ++ s ++ [0#8] ++ beB (BitVec.ofNat 64 n) 4
def dv (k s : Bs) (n : Nat) : Nat → Bs
  | 0 => []
  | j + 1 => dv k s n j ++ macV k (dtx s n j)
theorem dv_length (k s : Bs) (n : Nat) : ∀ j, (dv k s n j).length = 32 * j
  | 0 => rfl
  | j + 1 => by rw [dv, List.length_append, dv_length k s n j, macV_length]; omega
theorem dtx_length (s : Bs) (n j : Nat) : (dtx s n j).length = s.length + 9 := by simp [dtx, beB_length]; omega
/-- all that is derived -/
def drv (k s : Bs) (n : Nat) : Bs := (dv k s n ((n + 31) / 32)).take n
theorem drv_length (k s : Bs) (n : Nat) : (drv k s n).length = n := by rw [drv, List.length_take, dv_length]; omega
theorem dv_head (k s : Bs) (n : Nat) : ∀ j, (dv k s n (j + 1)).take 32 = macV k (dtx s n 0)
  | 0 => by
    rw [dv, dv, List.nil_append]
    exact List.take_of_length_le (by simp)
  | j + 1 => by
    rw [dv, List.take_append_of_le_length (by rw [dv_length]; omega)]
    exact dv_head k s n j
theorem drv_head (k s : Bs) (n : Nat) (h : 32 ≤ n) : (drv k s n).take 32 = macV k (dtx s n 0) := by
  obtain ⟨j, hj⟩ : ∃ j, (n + 31) / 32 = j + 1 := ⟨(n + 31) / 32 - 1, by omega⟩
  rw [drv, List.take_take, Nat.min_eq_left h, hj, dv_head]

/-- x[:n:n] of a slice of one's own -/
theorem Own.cut3 {E0 k c : Nat} {v : Value} {cs : List Value} {N : Hl} (hO : Own E0 k v c cs N) (n : Nat) (hn : n ≤ c) :
    ∃ v', (∀ a cap, v = .slice a c cap → v' = .slice (if n = 0 then a else a.map (·.add (0 * k))) n n) ∧ (∀ a cap, v = .slice a c cap → c ≤ cap) ∧ Own E0 k v' n (cs.take (n * k)) N := by
  obtain ⟨h1, h2⟩ := hO
  have hk : n * k ≤ c * k := Nat.mul_le_mul_right k hn
  rcases h2 with ⟨rfl, rfl, rfl⟩ | ⟨b, off, cap, pre, sp, fr, rfl, rfl, hoff, hcap, hsp, hfr⟩
  · obtain rfl : n = 0 := by omega
    refine ⟨.slice none 0 0, fun a cap e => by cases e; rfl, fun a cap e => by cases e; exact Nat.le_refl _, by simp, .inl ⟨rfl, rfl, rfl⟩⟩
  · have eq : pre ++ cs ++ sp = pre ++ cs.take (n * k) ++ (cs.drop (n * k) ++ sp) := by
      conv => lhs; rw [← List.take_append_drop (n * k) cs]
      simp only [List.append_assoc]
    refine ⟨.slice (some ⟨b, off, none⟩) n n, fun a cap e => ?_, fun a cap e => by cases e; exact hcap, by simp; omega, .inr ⟨b, off, n, pre, cs.drop (n * k) ++ sp, fr, rfl, ?_, hoff, Nat.le_refl _, by simp, ?_⟩⟩
    · cases e
      split
      · rfl
      · simp [add_off]
    · rw [← eq]
    · rw [← eq]
      exact hfr
theorem q_slice3 {P : Program} {E : Env} {ty t : TypeId} {w : World} {x y y' : Operand} {e k bb : Nat} {z : Value} {v v' : Value} {c n : Nat} {m m' : Int} (hT : P.underlying t = some (.slice e)) (he : TI P e k bb z) (hx : E.ev x = some v)
    (hv' : ∀ a cap, v = .slice a c cap → v' = .slice (if n = 0 then a else a.map (·.add (0 * k))) n n) (hc : ∀ a cap, v = .slice a c cap → c ≤ cap) (hr : Shp v c) (hy : E.ev y = some (I m)) (hy' : E.ev y' = some (I m')) (hm : m = n) (hm' : m' = n) (hn : n ≤ c) :
    Runs P E (.slice t x none (some y) (some y')) ty w v' := by
  intro ρ dst pos af g hρ
  obtain ⟨a, cap, rfl, e3, _⟩ := hr
  rw [hv' a cap rfl]
  have hcap := hc a cap rfl
  subst hm hm'
  have h1 : (Instr.sliceBounds true c cap none (some (I (n : Int))) (some (I (n : Int)))).run P w = .ok (0, n, n) w := by
    simp [Instr.sliceBounds, Instr.sliceBound, asIntOf, show n ≤ cap by omega]
  simp [execOp, hρ _ _ hx, hρ _ _ hy, hρ _ _ hy', Instr.sliceAt, Instr.slice, run_underlying hT, h1, he.size]
end Go.Proofs.YtipjpbfledddaaaDoor
