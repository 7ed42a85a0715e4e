/- Plain laws of layer 3: the mac. -/
import Derived.Test.YtipjpbfledddaaaDoorMd
namespace Go.Proofs.YtipjpbfledddaaaDoor
open Go
set_option linter.unusedVariables false
set_option linter.unusedSimpArgs false

/-- a key's block -/
def kk (key : Bs) : Bs := (if 64 < key.length then sha key else key) ++ List.replicate (64 - (if 64 < key.length then sha key else key).length) 0#8
theorem kk_length (key : Bs) : (kk key).length = 64 := by
  unfold kk
  split
  · simp
  · simp; omega
def xorB (c : BitVec 8) (l : Bs) : Bs := l.map (· ^^^ c)
@[simp] theorem xorB_length (c : BitVec 8) (l : Bs) : (xorB c l).length = l.length := by simp [xorB]
/-- one round -/
def rndB (b : Bs) (c : BitVec 8) (text : Bs) : Bs := sha (xorB c b ++ text)
def macV (key text : Bs) : Bs := rndB (kk key) 92#8 (rndB (kk key) 54#8 text)
@[simp] theorem rndB_length (b : Bs) (c : BitVec 8) (text : Bs) : (rndB b c text).length = 32 := by simp [rndB]
@[simp] theorem macV_length (key text : Bs) : (macV key text).length = 32 := by simp [macV]

/-- the first i bytes xored -/
def xorTo (b : Bs) (c : BitVec 8) (i : Nat) : Bs := (b.take i).map (· ^^^ c) ++ b.drop i
theorem xorTo_zero (b : Bs) (c : BitVec 8) : xorTo b c 0 = b := by simp [xorTo]
theorem xorTo_end (b : Bs) (c : BitVec 8) (h : b.length = 64) : xorTo b c 64 = xorB c b := by
  rw [xorTo, List.take_of_length_le (by omega), List.drop_eq_nil_of_le (by omega)]; simp [xorB]
@[simp] theorem xorTo_length (b : Bs) (c : BitVec 8) (i : Nat) : (xorTo b c i).length = b.length := by
  simp [xorTo]; omega
theorem xorTo_at (b : Bs) (c : BitVec 8) {i : Nat} (h : i < b.length) : (xorTo b c i).getD i 0#8 = b.getD i 0#8 := by
  have hl : ((b.take i).map (· ^^^ c)).length = i := by simp; omega
  simp only [xorTo, List.getD]
  rw [List.getElem?_append_right (by omega), hl, Nat.sub_self, List.getElem?_drop, Nat.add_zero]
theorem xorTo_set (b : Bs) (c : BitVec 8) {i : Nat} (h : i < b.length) : (xorTo b c i).set i ((xorTo b c i).getD i 0#8 ^^^ c) = xorTo b c (i + 1) := by
  have hl : ((b.take i).map (· ^^^ c)).length = i := by simp; omega
  rw [xorTo_at b c h]
  simp only [xorTo]
  rw [List.set_append_right _ _ (by omega), hl, Nat.sub_self, List.drop_eq_getElem_cons h, List.set_cons_zero, take_snoc (d := 0#8) b h, List.map_append, List.append_assoc]
  simp [List.getD, h]

/-- what keyed copies -/
theorem kk_copy (l : Bs) (h : l.length ≤ 64) : putAt ((List.replicate 64 0#8).map B8) 0 ((l.map B8).take (min l.length 64 * 1)) = (l ++ List.replicate (64 - l.length) 0#8).map B8 := by
  have e : (l.map B8).take (min l.length 64 * 1) = l.map B8 := List.take_of_length_le (by simp; omega)
  rw [e, putAt_eq _ _ _ (by simp; omega), List.take_zero, List.nil_append, List.map_append, Nat.zero_add, List.length_map, List.map_replicate, List.map_replicate, List.drop_replicate]

/-- the reference: what goes in, a byte at a time -/
def kin (key : Bs) (c : BitVec 8) (i : Nat) : Bs := (List.range i).map fun j => key.getD j 0#8 ^^^ c
theorem kin_succ (key : Bs) (c : BitVec 8) (i : Nat) : kin key c (i + 1) = kin key c i ++ [key.getD i 0#8 ^^^ c] := by simp [kin, List.range_succ]
@[simp] theorem kin_length (key : Bs) (c : BitVec 8) (i : Nat) : (kin key c i).length = i := by simp [kin]
theorem kin_end (key : Bs) (c : BitVec 8) (h : key.length ≤ 64) : kin key c 64 = xorB c (key ++ List.replicate (64 - key.length) 0#8) := by
  apply List.ext_getElem?
  intro i
  simp only [kin, xorB, List.getElem?_map, List.getElem?_range, List.getElem?_append, List.getElem?_replicate, List.getD]
  by_cases h1 : i < 64
  · by_cases h2 : i < key.length
    · simp [h1, h2]
    · have h3 : i - key.length < 64 - key.length := by omega
      simp [h1, h2, h3, List.getElem?_eq_none (show key.length ≤ i by omega)]
  · have h2 : ¬ i < key.length := by omega
    have h3 : ¬ i - key.length < 64 - key.length := by omega
    simp [h1, h2, h3]
theorem kk_big (key : Bs) (h : 64 < key.length) : kk key = sha key ++ List.replicate (64 - (sha key).length) 0#8 := by simp [kk, h]
theorem kk_small (key : Bs) (h : ¬ 64 < key.length) : kk key = key ++ List.replicate (64 - key.length) 0#8 := by simp [kk, h]
theorem kk_copyB (key : Bs) (h : 64 < key.length) : putAt ((List.replicate 64 0#8).map B8) 0 (((sha key).map B8).take (min 32 64 * 1)) = (kk key).map B8 := by
  have := kk_copy (sha key) (by simp)
  rw [sha_length] at this
  rw [this, kk_big key h, sha_length]
theorem kk_copyS (key : Bs) (h : ¬ 64 < key.length) : putAt ((List.replicate 64 0#8).map B8) 0 ((key.map B8).take (min key.length 64 * 1)) = (kk key).map B8 := by
  rw [kk_copy key (by omega), kk_small key h]
theorem HS.byB {M : List Nat} {w0 w : World} {Hs : List Hl} {b T n : Nat} {fr : Nat × Nat} {l : Bs} (hH : HS M w0 w Hs) (i : Nat) (hi : nth? Hs i = some [(b, Obj.cells (l.map B8).toArray T fr)]) (hl : l.length = n) : By [] w (.slice (some ⟨b, 0, none⟩) n n) l := by
  subst hl
  exact hH.rdB i hi (by simp)
theorem HS.byBM {M : List Nat} {w0 w : World} {Ns1 rest : List Hl} {b T n : Nat} {fr : Nat × Nat} {l : Bs} (hH : HS M w0 w (Ns1 ++ rest)) (i : Nat) (hi : nth? rest i = some [(b, Obj.cells (l.map B8).toArray T fr)]) (hl : l.length = n) : By (doms Ns1) w (.slice (some ⟨b, 0, none⟩) n n) l := by
  subst hl
  exact hH.rdBM i hi (by simp)
section
variable {P : Program} {E : Env} {ty t t' : TypeId} {w : World} {x y : Operand} {M : List Nat} {w0 : World} {Hs : List Hl}
/-- a literal's row, its block in sight -/
theorem lo_bsR {n : Nat} {parts : List (Nat × Operand)} {vs : List (Nat × Value)} {e : Nat} (l : Bs) (hH : HS M w0 w Hs) (hp : evs E parts = some vs) (hn : l.length = n)
    (hr : ∀ w, (Instr.buildSlice t n vs.toArray).run P w = .ok (.slice (some ⟨w.heap.size, 0, none⟩) n n) (w.alloc (.cells (l.map B8).toArray e))) :
    Lo P E (.buildSlice t n parts.toArray) ty w (fun v w' => ∃ b, v = .slice (some ⟨b, 0, none⟩) n n ∧ HS M w0 w' ([(b, Obj.cells (l.map B8).toArray e (0, 0))] :: Hs)) := by
  intro a dst pos af g K Q ha hK
  have := evs_map ha hp
  simp [Oper.wp, execOp, this, hr, Oper.upon]
  refine hK _ _ ⟨w.heap.size, rfl, ?_⟩
  exact hH.alloc (.cells (l.map B8).toArray e)
/-- .. turned to its own type: a constant text's bytes -/
theorem lo_cvBytes {e b n : Nat} {l : Bs} (hH : HS M w0 w ([(b, Obj.cells (l.map B8).toArray e (0, 0))] :: Hs)) (ht : P.underlying t = some (.slice e)) (he : P.underlying e = some (.int .u8))
    (hx : E.ev x = some (.slice (some ⟨b, 0, none⟩) n n)) (hn : l.length = n) : Lo P E (.convert t t x) ty w (fun v w' => ∃ N, Ow B8 e v l N ∧ HS M w0 w' (N :: Hs)) := by
  intro a dst pos af g K Q ha hK
  have hb : w.heap[b]? = some (.cells (l.map B8).toArray e (0, 0)) := hH.has _ List.mem_cons_self (b, _) (List.mem_singleton.2 rfl)
  have hsh : w.shape? b = some (e, l.length) := by
    unfold World.shape?
    rw [hb]
    simp
  have hr : (convert t t (.slice (some ⟨b, 0, none⟩) n n)).run P w = .ok (.slice (some ⟨b, 0, none⟩) n n) (w.freeze ⟨b, l.length, none⟩ 1) := by
    simp [convert, run_underlying ht, run_underlying he, markStringish, hsh]
  simp only [Oper.wp, execOp, ha _ _ hx, Sem.run_bind, hr, Result.andThen_ok, Sem.run_pure, Oper.upon_value]
  have hlt : b < w.heap.size := (Array.getElem?_eq_some_iff.1 hb).1
  refine hK _ _ ⟨[(b, .cells (l.map B8).toArray e (l.length, l.length + 1))], ⟨by simp, .inr ⟨b, 0, n, [], [], (l.length, l.length + 1), by rw [hn], by simp, rfl, by omega, by simp [hn], ?_⟩⟩, ?_⟩
  · intro i hi
    have : i < l.length := by simpa using hi
    simp
    omega
  · refine HS.turn hH rfl rfl rfl (by simp [World.freeze]) (fun b' hb' => ?_) rfl fun p hp => ?_
    · have : b ≠ b' := hb' _ (List.mem_singleton.2 rfl)
      simp [World.freeze, Array.getElem?_modify, this]
    · obtain rfl := List.mem_singleton.1 hp
      have hb2 := hb
      simp only [World.freeze]
      rw [if_neg (by decide)]
      simp only [Array.getElem?_modify, if_true, hb2, Option.map_some]
      simp
end
theorem kk_sha (key : Bs) (h : 64 < key.length) : kk (sha key) = kk key := by
  rw [kk_big key h, kk_small (sha key) (by simp)]
theorem macV_sha (key text : Bs) (h : 64 < key.length) : macV key text = macV (sha key) text := by simp only [macV, kk_sha key h]
theorem kk_pad (key : Bs) (j : Nat) (h : key.length + j ≤ 64) : kk (key ++ List.replicate j 0#8) = kk key := by
  rw [kk_small _ (by simp; omega), kk_small key (by omega), List.append_assoc, List.replicate_append_replicate]
  congr 2
  simp
  omega
theorem macV_pad (key text : Bs) (j : Nat) (h : key.length + j ≤ 64) : macV key text = macV (key ++ List.replicate j 0#8) text := by simp only [macV, kk_pad key j h]

/-- one step of the comparison that does not stop -/
theorem same_step (A B : Bs) {i z : Nat} {c : BitVec 8} (hi : i < A.length) (hBA : B.length ≤ A.length) (hz : z = 0 ↔ A.length = B.length ∧ A.take i = B.take i) (hc : i < B.length → c = B.getD i 0#8) :
    (z ||| (A.getD i 0#8 ^^^ c).toNat) = 0 ↔ A.length = B.length ∧ A.take (i + 1) = B.take (i + 1) := by
  rw [Nat.or_eq_zero_iff, hz]
  constructor
  · rintro ⟨⟨h1, h2⟩, h3⟩
    have hB : i < B.length := by omega
    have hx : A.getD i 0#8 = c := by
      have : A.getD i 0#8 ^^^ c = 0#8 := BitVec.eq_of_toNat_eq (by simpa using h3)
      simpa using (BitVec.xor_eq_zero_iff).1 this
    refine ⟨h1, ?_⟩
    rw [take_snoc (d := 0#8) A hi, take_snoc (d := 0#8) B hB, h2, hx, hc hB]
  · rintro ⟨h1, h2⟩
    have hB : i < B.length := by omega
    rw [take_snoc (d := 0#8) A hi, take_snoc (d := 0#8) B hB] at h2
    have h3 := List.append_inj h2 (by simp; omega)
    refine ⟨⟨h1, h3.1⟩, ?_⟩
    have h4 : A.getD i 0#8 = B.getD i 0#8 := by simpa using h3.2
    rw [h4, hc hB]
    simp
theorem same_fin (A B : Bs) {z : Nat} (hz : z = 0 ↔ A.length = B.length ∧ A.take A.length = B.take A.length) : ((z : Int) = 0) ↔ A = B := by
  have : ((z : Int) = 0) ↔ z = 0 := by omega
  rw [this, hz]
  constructor
  · rintro ⟨h1, h2⟩
    rw [List.take_length, h1, List.take_length] at h2
    exact h2
  · rintro rfl
    simp
theorem or_lt {a b : Nat} (ha : a < 4611686018427387904) (hb : b < 256) : a ||| b < 4611686018427387904 := Nat.or_lt_two_pow (n := 62) ha (by omega)
theorem jefe_0 : (macV [74#8, 101#8, 102#8, 101#8] [119#8, 104#8, 97#8, 116#8, 32#8, 100#8, 111#8, 32#8, 121#8, 97#8, 32#8, 119#8, 97#8, 110#8, 116#8, 32#8, 102#8, 111#8, 114#8, 32#8, 110#8, 111#8, 116#8, 104#8, 105#8, 110#8, 103#8, 63#8]).getD 0 0#8 = 91#8 := by decide +kernel
theorem jefe_1 : (macV [74#8, 101#8, 102#8, 101#8] [119#8, 104#8, 97#8, 116#8, 32#8, 100#8, 111#8, 32#8, 121#8, 97#8, 32#8, 119#8, 97#8, 110#8, 116#8, 32#8, 102#8, 111#8, 114#8, 32#8, 110#8, 111#8, 116#8, 104#8, 105#8, 110#8, 103#8, 63#8]).getD 1 0#8 = 220#8 := by decide +kernel
theorem jefe_31 : (macV [74#8, 101#8, 102#8, 101#8] [119#8, 104#8, 97#8, 116#8, 32#8, 100#8, 111#8, 32#8, 121#8, 97#8, 32#8, 119#8, 97#8, 110#8, 116#8, 32#8, 102#8, 111#8, 114#8, 32#8, 110#8, 111#8, 116#8, 104#8, 105#8, 110#8, 103#8, 63#8]).getD 31 0#8 = 67#8 := by decide +kernel
end Go.Proofs.YtipjpbfledddaaaDoor
