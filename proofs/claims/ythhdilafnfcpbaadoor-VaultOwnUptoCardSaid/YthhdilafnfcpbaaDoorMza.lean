/- The texts Ma, Mb, Mc, Md, Me, Mf, Mg of this proof's library, one behind the other. -/
import Derived.Test.YthhdilafnfcpbaaDoorLl
import Derived.KernelRfl
/- Plain laws of layer 1: turning, words, bytes. No program in sight. -/
namespace Go.Proofs.YthhdilafnfcpbaaDoor
open Go
set_option linter.unusedVariables false
set_option linter.unusedSimpArgs false

/-- turned to the right -/
def rotR (x : BitVec 32) (n : Nat) : BitVec 32 := x >>> n ||| x <<< (32 - n)

theorem rot_k {n : Nat} (h : n < 32) : (BitVec.ofInt 64 (n : Int) &&& 31#64).toNat = n := by
  rw [BitVec.ofInt_natCast, BitVec.toNat_and, BitVec.toNat_ofNat, Nat.mod_eq_of_lt (by omega)]
  have : (31#64).toNat = 2 ^ 5 - 1 := rfl
  rw [this, Nat.and_two_pow_sub_one_eq_mod]
  omega
theorem rot_prog (x : BitVec 32) {n : Nat} (h : n < 32) : x >>> (BitVec.ofInt 64 (n : Int) &&& 31#64).toNat ||| x <<< (32#64 - (BitVec.ofInt 64 (n : Int) &&& 31#64)).toNat = rotR x n := by
  have e : (32#64 - (BitVec.ofInt 64 (n : Int) &&& 31#64)).toNat = 32 - n := by
    rw [BitVec.toNat_sub, rot_k h]
    have : (32#64).toNat = 32 := rfl
    omega
  rw [rot_k h, e, rotR]

/-! bytes as numbers -/
/-- a number's lowest byte -/
def lowB (n : BitVec 64) : BitVec 8 := n.setWidth 8
/-- the k lowest bytes of a number, the highest first -/
def beB (n : BitVec 64) : Nat → List (BitVec 8)
  | 0 => []
  | k + 1 => lowB (n >>> (8 * k)) :: beB n k
/-- the number of bytes -/
def num (l : List (BitVec 8)) : BitVec 64 := l.foldl (fun n c => n <<< 8 ||| c.setWidth 64) 0#64
theorem num_snoc (l : List (BitVec 8)) (c : BitVec 8) : num (l ++ [c]) = num l <<< 8 ||| c.setWidth 64 := by simp [num]
theorem beB_length (n : BitVec 64) : ∀ k, (beB n k).length = k
  | 0 => rfl
  | k + 1 => by simp [beB, beB_length n k]
/-- what the program's loop has written -/
theorem beB_set (n : BitVec 64) {k i : Nat} (h : i < k) : (List.replicate (k - i) 0#8 ++ beB n i).set (k - 1 - i) (lowB (n >>> (8 * i))) = List.replicate (k - (i + 1)) 0#8 ++ beB n (i + 1) := by
  have e : k - i = (k - (i + 1)) + 1 := by omega
  rw [e, List.replicate_succ', List.append_assoc, List.set_append_right _ _ (by simp; omega)]
  simp only [List.length_replicate]
  rw [show k - 1 - i - (k - (i + 1)) = 0 by omega]
  rfl
/-- the number of four bytes -/
def word (l : List (BitVec 8)) (i : Nat) : BitVec 32 := (num ((l.drop i).take 4)).setWidth 32
theorem num_ltn : ∀ (n : Nat) (l : List (BitVec 8)), l.length = n → n ≤ 8 → (num l).toNat < 256 ^ l.length ∧ (num l).toNat = l.foldl (fun n c => n * 256 + c.toNat) 0 := by
  intro n
  induction n with
  | zero =>
    intro l h _
    obtain rfl := List.eq_nil_of_length_eq_zero h
    exact ⟨by decide, rfl⟩
  | succ n ih =>
    intro l hl h
    obtain ⟨l, c, rfl⟩ : ∃ l' c, l = l' ++ [c] := by
      rcases List.eq_nil_or_concat l with rfl | ⟨l', c, rfl⟩
      · simp at hl
      · exact ⟨l', c, by simp⟩
    simp only [List.length_append, List.length_cons, List.length_nil, Nat.zero_add] at hl
    obtain ⟨h1, h2⟩ := ih l (by omega) (by omega)
    have hc := c.isLt
    have hp : 256 ^ l.length ≤ 256 ^ 7 := Nat.pow_le_pow_right (by omega) (by omega)
    have e1 : (num (l ++ [c])).toNat = (num l).toNat * 256 + c.toNat := by
      rw [num_snoc, BitVec.toNat_or, BitVec.toNat_shiftLeft, BitVec.toNat_setWidth]
      have e2 : c.toNat % 2 ^ 64 = c.toNat := Nat.mod_eq_of_lt (by omega)
      have e3 : (num l).toNat <<< 8 % 2 ^ 64 = (num l).toNat <<< 8 := Nat.mod_eq_of_lt (by rw [Nat.shiftLeft_eq]; omega)
      rw [e2, e3, ← Nat.shiftLeft_add_eq_or_of_lt (by omega), Nat.shiftLeft_eq]
    rw [e1, List.foldl_append, ← h2]
    refine ⟨?_, rfl⟩
    simp only [List.length_append, List.length_cons, List.length_nil, Nat.zero_add, Nat.pow_succ]
    omega
theorem num_lt (l : List (BitVec 8)) (h : l.length ≤ 8) : (num l).toNat < 256 ^ l.length ∧ (num l).toNat = l.foldl (fun n c => n * 256 + c.toNat) 0 := num_ltn _ l rfl h
end Go.Proofs.YthhdilafnfcpbaaDoor
/- Plain laws of layer 2: SHA-256. No program in sight. -/
namespace Go.Proofs.YthhdilafnfcpbaaDoor
open Go
set_option linter.unusedVariables false
set_option linter.unusedSimpArgs false

abbrev W := BitVec 32

def kTab : List W := [0x428a2f98#32, 0x71374491#32, 0xb5c0fbcf#32, 0xe9b5dba5#32, 0x3956c25b#32, 0x59f111f1#32, 0x923f82a4#32, 0xab1c5ed5#32,
  0xd807aa98#32, 0x12835b01#32, 0x243185be#32, 0x550c7dc3#32, 0x72be5d74#32, 0x80deb1fe#32, 0x9bdc06a7#32, 0xc19bf174#32,
  0xe49b69c1#32, 0xefbe4786#32, 0x0fc19dc6#32, 0x240ca1cc#32, 0x2de92c6f#32, 0x4a7484aa#32, 0x5cb0a9dc#32, 0x76f988da#32,
  0x983e5152#32, 0xa831c66d#32, 0xb00327c8#32, 0xbf597fc7#32, 0xc6e00bf3#32, 0xd5a79147#32, 0x06ca6351#32, 0x14292967#32,
  0x27b70a85#32, 0x2e1b2138#32, 0x4d2c6dfc#32, 0x53380d13#32, 0x650a7354#32, 0x766a0abb#32, 0x81c2c92e#32, 0x92722c85#32,
  0xa2bfe8a1#32, 0xa81a664b#32, 0xc24b8b70#32, 0xc76c51a3#32, 0xd192e819#32, 0xd6990624#32, 0xf40e3585#32, 0x106aa070#32,
  0x19a4c116#32, 0x1e376c08#32, 0x2748774c#32, 0x34b0bcb5#32, 0x391c0cb3#32, 0x4ed8aa4a#32, 0x5b9cca4f#32, 0x682e6ff3#32,
  0x748f82ee#32, 0x78a5636f#32, 0x84c87814#32, 0x8cc70208#32, 0x90befffa#32, 0xa4506ceb#32, 0xbef9a3f7#32, 0xc67178f2#32]
def iv : List W := [0x6a09e667#32, 0xbb67ae85#32, 0x3c6ef372#32, 0xa54ff53a#32, 0x510e527f#32, 0x9b05688c#32, 0x1f83d9ab#32, 0x5be0cd19#32]

@[simp] theorem kTab_length : kTab.length = 64 := rfl
@[simp] theorem iv_length : iv.length = 8 := rfl
def ss0 (x : W) : W := rotR x 7 ^^^ rotR x 18 ^^^ x >>> 3
def ss1 (x : W) : W := rotR x 17 ^^^ rotR x 19 ^^^ x >>> 10
def bs0 (x : W) : W := rotR x 2 ^^^ rotR x 13 ^^^ rotR x 22
def bs1 (x : W) : W := rotR x 6 ^^^ rotR x 11 ^^^ rotR x 25
def ch (e f g : W) : W := e &&& f ^^^ ~~~e &&& g
def maj (a b c : W) : W := a &&& b ^^^ a &&& c ^^^ b &&& c

theorem ch_prog (e f g : W) : g ^^^ e &&& (f ^^^ g) = ch e f g := by
  apply BitVec.eq_of_getLsbD_eq
  intro i hi
  simp only [ch, BitVec.getLsbD_xor, BitVec.getLsbD_and, BitVec.getLsbD_not, hi, decide_true, Bool.true_and]
  cases e.getLsbD i <;> cases f.getLsbD i <;> cases g.getLsbD i <;> rfl
theorem maj_prog (a b c : W) : a &&& b ||| c &&& (a ||| b) = maj a b c := by
  apply BitVec.eq_of_getLsbD_eq
  intro i hi
  simp only [maj, BitVec.getLsbD_xor, BitVec.getLsbD_and, BitVec.getLsbD_or]
  cases a.getLsbD i <;> cases b.getLsbD i <;> cases c.getLsbD i <;> rfl

/-- the words of a block, the first t -/
def schNext (l : List (BitVec 8)) (ws : List W) (t : Nat) : W :=
  if t < 16 then word l (4 * t) else ss1 (ws.getD (t - 2) 0#32) + ws.getD (t - 7) 0#32 + ss0 (ws.getD (t - 15) 0#32) + ws.getD (t - 16) 0#32
def sched (l : List (BitVec 8)) : Nat → List W
  | 0 => []
  | t + 1 => sched l t ++ [schNext l (sched l t) t]
@[simp] theorem sched_length (l : List (BitVec 8)) : ∀ t, (sched l t).length = t
  | 0 => rfl
  | t + 1 => by simp [sched, sched_length l t]

structure St where
  a : W
  b : W
  c : W
  d : W
  e : W
  f : W
  g : W
  h : W
def St.list (s : St) : List W := [s.a, s.b, s.c, s.d, s.e, s.f, s.g, s.h]
def St.of (l : List W) : St := ⟨l.getD 0 0#32, l.getD 1 0#32, l.getD 2 0#32, l.getD 3 0#32, l.getD 4 0#32, l.getD 5 0#32, l.getD 6 0#32, l.getD 7 0#32⟩
def rndT1 (s : St) (k w : W) : W := s.h + bs1 s.e + ch s.e s.f s.g + k + w
def rndT2 (s : St) : W := bs0 s.a + maj s.a s.b s.c
def rnd (s : St) (k w : W) : St := ⟨rndT1 s k w + rndT2 s, s.a, s.b, s.c, s.d + rndT1 s k w, s.e, s.f, s.g⟩
def rnds (ws : List W) (s : St) : Nat → St
  | 0 => s
  | t + 1 => rnd (rnds ws s t) (kTab.getD t 0#32) (ws.getD t 0#32)
def addAll (s : List W) (v : St) : List W := [s.getD 0 0#32 + v.a, s.getD 1 0#32 + v.b, s.getD 2 0#32 + v.c, s.getD 3 0#32 + v.d, s.getD 4 0#32 + v.e, s.getD 5 0#32 + v.f, s.getD 6 0#32 + v.g, s.getD 7 0#32 + v.h]
/-- the words behind a block -/
def blk (s : List W) (l : List (BitVec 8)) : List W := addAll s (rnds (sched l 64) (St.of s) 64)
@[simp] theorem blk_length (s : List W) (l : List (BitVec 8)) : (blk s l).length = 8 := rfl

/-- what stands in the array when t words are there -/
theorem sch_get {l : List (BitVec 8)} {t i n : Nat} (hi : i < t) : (sched l t ++ List.replicate n 0#32).getD i 0#32 = (sched l t).getD i 0#32 := by
  have := sched_length l t
  simp [List.getD, List.getElem?_append, hi]
theorem sch_set {l : List (BitVec 8)} {t : Nat} (ht : t < 64) (x : W) (hx : x = schNext l (sched l t) t) : (sched l t ++ List.replicate (64 - t) 0#32).set t x = sched l (t + 1) ++ List.replicate (64 - (t + 1)) 0#32 := by
  have hl := sched_length l t
  have e : 64 - t = (64 - (t + 1)) + 1 := by omega
  rw [List.set_append_right _ _ (by omega), hl, Nat.sub_self, e, List.replicate_succ, sched, hx]
  simp
/-- the first i places added -/
def addTo (s : List W) (v : St) (i : Nat) : List W := (addAll s v).take i ++ s.drop i
@[simp] theorem addTo_length {s : List W} (hs : s.length = 8) (v : St) {i : Nat} (hi : i ≤ 8) : (addTo s v i).length = 8 := by
  have : (addAll s v).length = 8 := rfl
  simp [addTo, this, hs]; omega
@[simp] theorem addAll_length (s : List W) (v : St) : (addAll s v).length = 8 := rfl
@[simp] theorem St.list_length (s : St) : s.list.length = 8 := rfl
theorem sch_one (l : List (BitVec 8)) {t : Nat} (h : t < 16) : word l (4 * t) = schNext l (sched l t) t := by rw [schNext, if_pos h]
theorem sch_prog (l : List (BitVec 8)) {t n : Nat} (h : ¬ t < 16) :
    (sched l t ++ List.replicate n 0#32).getD (t - 16) 0#32 + (sched l t ++ List.replicate n 0#32).getD (t - 7) 0#32 +
      (rotR ((sched l t ++ List.replicate n 0#32).getD (t - 15) 0#32) 7 ^^^ rotR ((sched l t ++ List.replicate n 0#32).getD (t - 15) 0#32) 18 ^^^ (sched l t ++ List.replicate n 0#32).getD (t - 15) 0#32 >>> 3) +
      (rotR ((sched l t ++ List.replicate n 0#32).getD (t - 2) 0#32) 17 ^^^ rotR ((sched l t ++ List.replicate n 0#32).getD (t - 2) 0#32) 19 ^^^ (sched l t ++ List.replicate n 0#32).getD (t - 2) 0#32 >>> 10) = schNext l (sched l t) t := by
  rw [schNext, if_neg h, sch_get (by omega), sch_get (by omega), sch_get (by omega), sch_get (by omega), ss0, ss1]
  ac_rfl
theorem sched_end (l : List (BitVec 8)) : sched l 64 ++ List.replicate (64 - 64) 0#32 = sched l 64 := by simp
end Go.Proofs.YthhdilafnfcpbaaDoor
/- Plain laws of layer 2: what is hashed; and a hash in memory. -/
namespace Go.Proofs.YthhdilafnfcpbaaDoor
open Go
set_option linter.unusedVariables false
set_option linter.unusedSimpArgs false

abbrev Bs := List (BitVec 8)

/-- the words behind the first k blocks -/
def blks (s : List W) (m : Bs) : Nat → List W
  | 0 => s
  | k + 1 => blk (blks s m k) ((m.drop (64 * k)).take 64)
theorem blks_length {s : List W} (hs : s.length = 8) (m : Bs) : ∀ k, (blks s m k).length = 8
  | 0 => hs
  | k + 1 => by simp [blks]
theorem blks_append (s : List W) (m l : Bs) : ∀ {k : Nat}, 64 * k ≤ m.length → blks s (m ++ l) k = blks s m k
  | 0, _ => rfl
  | k + 1, h => by
    rw [blks, blks, blks_append s m l (by omega)]
    congr 1
    rw [List.drop_append_of_le_length (by omega), List.take_append_of_le_length (by simp; omega)]

/-- what fills up n bytes -/
def padB (n : Nat) : Bs := [128#8] ++ List.replicate ((119 - n % 64) % 64) 0#8 ++ beB (BitVec.ofNat 64 n <<< 3) 8
theorem padB_length (n : Nat) : (padB n).length = 9 + (119 - n % 64) % 64 := by simp [padB, beB_length]; omega
theorem pad_prog {n : Nat} : (List.replicate (1 + (119 - n % 64) % 64) 0#8).set 0 128#8 ++ beB (BitVec.ofInt 64 (n : Int) <<< 3) 8 = padB n := by
  rw [BitVec.ofInt_natCast, padB, Nat.add_comm 1, List.replicate_succ]
  rfl
theorem drop_next (X : Bs) (k : Nat) : ((X.drop (64 * k)).drop 64).take ((X.drop (64 * k)).length - 64) = X.drop (64 * (k + 1)) := by
  rw [List.drop_drop, List.take_of_length_le (by simp; omega)]; congr 1
theorem and3 (i : Nat) : i &&& 3 = i % 4 := Nat.and_two_pow_sub_one_eq_mod i 2

/-- a sum's bytes -/
def dig (s : List W) : Bs := (List.range 32).map fun i => (s.getD (i / 4) 0#32 >>> (24 - 8 * (i % 4))).setWidth 8
@[simp] theorem dig_length (s : List W) : (dig s).length = 32 := by simp [dig]
/-- the first i of them -/
def digTo (s : List W) (i : Nat) : Bs := (dig s).take i ++ List.replicate (32 - i) 0#8
theorem digTo_end (s : List W) : digTo s 32 = dig s := by
  rw [digTo, List.take_of_length_le (by simp)]; simp
@[simp] theorem digTo_length (s : List W) {i : Nat} (h : i ≤ 32) : (digTo s i).length = 32 := by simp [digTo]; omega
theorem digTo_set (s : List W) {i : Nat} (h : i < 32) : (digTo s i).set i ((s.getD (i / 4) 0#32 >>> (24 - 8 * (i % 4))).setWidth 8) = digTo s (i + 1) := by
  have e : 32 - i = (32 - (i + 1)) + 1 := by omega
  have hl : ((dig s).take i).length = i := by simp; omega
  rw [digTo, List.set_append_right _ _ (by omega), hl, Nat.sub_self, e, List.replicate_succ, List.set_cons_zero, digTo, take_snoc (d := 0#8) (dig s) (by simp; omega)]
  have : (dig s).getD i 0#8 = (s.getD (i / 4) 0#32 >>> (24 - 8 * (i % 4))).setWidth 8 := by simp [dig, List.getD, h]
  rw [this]
  simp

/-- the words of a message that is filled up -/
def shaW (m : Bs) : List W := blks iv (m ++ padB m.length) ((m ++ padB m.length).length / 64)
/-- the sum of a message -/
def sha (m : Bs) : Bs := dig (shaW m)
@[simp] theorem sha_length (m : Bs) : (sha m).length = 32 := by simp [sha]

/-! ### a hash in memory -/
/-- its cells -/
def hc (ws : List W) (v : Value) (n : Nat) : List Value := ws.map U32 ++ [v, I n]
theorem hc_8 {ws : List W} (h : ws.length = 8) (v : Value) (n : Nat) : (hc ws v n)[8]? = some v := by simp [hc, List.getElem?_append, h]
theorem hc_9 {ws : List W} (h : ws.length = 8) (v : Value) (n : Nat) : (hc ws v n)[9]? = some (I n) := by simp [hc, List.getElem?_append, h]
theorem hc_w {ws : List W} (h : ws.length = 8) (v : Value) (n : Nat) {i : Nat} (hi : i < 8) : (hc ws v n)[i]? = some (U32 (ws.getD i 0#32)) := by
  simp [hc, List.getElem?_append, h, hi, List.getD]
theorem hc_len {ws : List W} (h : ws.length = 8) (v : Value) (n : Nat) : (hc ws v n).length = 10 := by simp [hc, h]
theorem hc_set8 {ws : List W} (h : ws.length = 8) (v v' : Value) (n : Nat) : (hc ws v n).set 8 v' = hc ws v' n := by
  rw [hc, List.set_append_right _ _ (by simp [h])]; simp [h, hc]
theorem hc_set9 {ws : List W} (h : ws.length = 8) (v : Value) (n n' : Nat) : (hc ws v n).set 9 (I n') = hc ws v n' := by
  rw [hc, List.set_append_right _ _ (by simp [h])]; simp [h, hc]
theorem hc_take {ws : List W} (h : ws.length = 8) (v : Value) (n : Nat) : ((hc ws v n).drop 0).take 8 = ws.map U32 := by
  rw [hc, List.drop_zero, List.take_append_of_le_length (by simp [h]), List.take_of_length_le (by simp [h])]
theorem hc_put {ws ws' : List W} (h : ws.length = 8) (h' : ws'.length = 8) (v : Value) (n : Nat) : putAt (hc ws v n) 0 (ws'.map U32) = hc ws' v n := by
  rw [putAt_eq _ _ _ (by simp [hc_len h, h']), hc, List.take_zero, List.drop_append]
  simp [h, h', hc]
/-- a hash of the message m, its block b -/
def HashM (T e : Nat) (b : Nat) (m : Bs) (N : Hl) : Prop :=
  ∃ v Nr, N = [(b, Obj.cells (hc (blks iv m (m.length / 64)) v m.length).toArray T (0, 0))] ++ Nr ∧ Ow B8 e v (m.drop (64 * (m.length / 64))) Nr

theorem HS.split {M : List Nat} {w0 w : World} {N1 N2 : Hl} {rest : List Hl} (h : HS M w0 w ((N1 ++ N2) :: rest)) : HS M w0 w (N1 :: N2 :: rest) := by
  have hnd := h.nd _ List.mem_cons_self
  rw [List.map_append, List.nodup_append] at hnd
  have hap := List.pairwise_cons.1 h.ap
  have mem : ∀ N ∈ N1 :: N2 :: rest, ∀ p ∈ N, ∃ N' ∈ (N1 ++ N2) :: rest, p ∈ N' := fun N hN p hp => by
    rcases List.mem_cons.1 hN with rfl | hN
    · exact ⟨_, List.mem_cons_self, List.mem_append_left _ hp⟩
    · rcases List.mem_cons.1 hN with rfl | hN
      · exact ⟨_, List.mem_cons_self, List.mem_append_right _ hp⟩
      · exact ⟨N, List.mem_cons_of_mem _ hN, hp⟩
  refine ⟨h.os, h.tape, h.output, h.size, h.old, fun N hN p hp => ?_, fun N hN => ?_, ?_, fun N hN p hp => ?_⟩
  · obtain ⟨N', hN', hp'⟩ := mem N hN p hp
    exact h.has N' hN' p hp'
  · rcases List.mem_cons.1 hN with rfl | hN
    · exact hnd.1
    · rcases List.mem_cons.1 hN with rfl | hN
      · exact hnd.2.1
      · exact h.nd N (List.mem_cons_of_mem _ hN)
  · refine List.pairwise_cons.2 ⟨fun N hN p hp q hq => ?_, List.pairwise_cons.2 ⟨fun N hN p hp q hq => hap.1 N hN p (List.mem_append_right _ hp) q hq, hap.2⟩⟩
    rcases List.mem_cons.1 hN with rfl | hN
    · exact hnd.2.2 _ (List.mem_map_of_mem (f := (·.1)) hp) _ (List.mem_map_of_mem (f := (·.1)) hq)
    · exact hap.1 N hN p (List.mem_append_left _ hp) q hq
  · obtain ⟨N', hN', hp'⟩ := mem N hN p hp
    exact h.dom N' hN' p hp'
theorem HS.join {M : List Nat} {w0 w : World} {N1 N2 : Hl} {rest : List Hl} (h : HS M w0 w (N1 :: N2 :: rest)) : HS M w0 w ((N1 ++ N2) :: rest) := by
  have hap := List.pairwise_cons.1 h.ap
  have hap2 := List.pairwise_cons.1 hap.2
  have h1 := h.nd N1 (by simp)
  have h2 := h.nd N2 (by simp)
  refine ⟨h.os, h.tape, h.output, h.size, h.old, fun N hN p hp => ?_, fun N hN => ?_, ?_, fun N hN p hp => ?_⟩
  · rcases List.mem_cons.1 hN with rfl | hN
    · rcases List.mem_append.1 hp with hp | hp
      · exact h.has N1 (by simp) p hp
      · exact h.has N2 (by simp) p hp
    · exact h.has N (by simp [hN]) p hp
  · rcases List.mem_cons.1 hN with rfl | hN
    · rw [List.map_append, List.nodup_append]
      refine ⟨h1, h2, fun a ha b hb => ?_⟩
      obtain ⟨p, hp, rfl⟩ := List.mem_map.1 ha
      obtain ⟨q, hq, rfl⟩ := List.mem_map.1 hb
      exact hap.1 N2 (by simp) p hp q hq
    · exact h.nd N (by simp [hN])
  · refine List.pairwise_cons.2 ⟨fun N hN p hp q hq => ?_, hap2.2⟩
    rcases List.mem_append.1 hp with hp | hp
    · exact hap.1 N (by simp [hN]) p hp q hq
    · exact hap2.1 N hN p hp q hq
  · rcases List.mem_cons.1 hN with rfl | hN
    · rcases List.mem_append.1 hp with hp | hp
      · exact h.dom N1 (by simp) p hp
      · exact h.dom N2 (by simp) p hp
    · exact h.dom N (by simp [hN]) p hp

/-- what is read of a heaplet that nobody writes -/
def RO (M : List Nat) (w : World) (N : Hl) : Prop := ∀ p ∈ N, w.heap[p.1]? = some p.2 ∧ p.1 ∉ M
theorem RO.of {M : List Nat} {w0 w : World} {Hs : List Hl} (h : HS M w0 w Hs) (i : Nat) {N : Hl} (hi : nth? Hs i = some N) : RO [] w N := by
  rw [nth?_eq] at hi
  exact fun p hp => ⟨h.has N (List.mem_of_getElem? hi) p hp, by simp⟩
theorem RO.later {M : List Nat} {w0 w : World} {Hs : List Hl} {N : Hl} (h : RO M w0 N) (hH : HS M w0 w Hs) : RO [] w N := fun p hp => by
  obtain ⟨h1, h2⟩ := h p hp
  exact ⟨by rw [hH.old _ (Array.getElem?_eq_some_iff.1 h1).1 h2]; exact h1, by simp⟩
theorem Own.ro {M : List Nat} {E k : Nat} {v : Value} {n : Nat} {cs : List Value} {N : Hl} {w : World} (h : Own E k v n cs N) (hN : RO M w N) : Rd M w v n k cs := by
  obtain ⟨h1, h2⟩ := h
  refine ⟨h1, ?_⟩
  rcases h2 with ⟨rfl, rfl, rfl⟩ | ⟨b, off, cap, pre, sp, fr, rfl, rfl, hoff, hcap, hsp, hfr⟩
  · exact ⟨none, 0, rfl, Nat.le_refl _, fun _ => ⟨rfl, rfl⟩, fun ad h => by cases h⟩
  · refine ⟨some ⟨b, off, none⟩, cap, rfl, hcap, (fun h => by cases h), fun ad had _ => ?_⟩
    cases had
    obtain ⟨g1, g2⟩ := hN (b, _) (List.mem_singleton.2 rfl)
    refine ⟨rfl, g2, _, E, fr, g1, ?_, fun i hi => ?_⟩
    · simp only [List.size_toArray, List.length_append, h1, hoff]
      have : cap * k = n * k + (cap - n) * k := by rw [← Nat.add_mul]; congr 1; omega
      omega
    · simp only [List.getElem?_toArray]
      rw [List.append_assoc, List.getElem?_append_right (by omega), hoff, Nat.add_sub_cancel_left, List.getElem?_append_left (by omega)]
theorem q_loadRO {P : Program} {E : Env} {ty t : TypeId} {w : World} {x : Operand} {N : Hl} {M : List Nat} {d : TypeDesc} {b o T : Nat} {fr : Nat × Nat} {c : List Value} {u : Value} (hN : RO M w N) (hm : (b, Obj.cells c.toArray T fr) ∈ N)
    (hT : P.underlying t = some d) (hf : flat d = true) (hx : E.ev x = some (.pointer (some ⟨b, o, none⟩))) (hu : c[o]? = some u) : Runs P E (.load t x) ty w u :=
  q_load_cell hT hf hx (by rw [cell_at (hN _ hm).1]; simpa using hu)
theorem q_loadROA {P : Program} {E : Env} {ty t : TypeId} {w : World} {x : Operand} {N : Hl} {M : List Nat} {d : TypeDesc} {b o T k bb : Nat} {z : Value} {fr : Nat × Nat} {c : List Value} (hN : RO M w N) (hm : (b, Obj.cells c.toArray T fr) ∈ N)
    (hT : P.underlying t = some d) (hf : flat d = false) (he : TI P t k bb z) (hx : E.ev x = some (.pointer (some ⟨b, o, none⟩))) (es : List Value) (hes : (c.drop o).take k = es) (hk : es.length = k) : Runs P E (.load t x) ty w (.agg es.toArray) := by
  refine q_loadA hT hf he hx es hk fun j u hu => ?_
  rw [add_off, cell_at (hN _ hm).1]
  rw [← hes, List.getElem?_take] at hu
  split at hu
  · simpa using hu
  · cases hu
theorem eight {ws : List W} (h : ws.length = 8) : ∃ a b c d e f g h, ws = [a, b, c, d, e, f, g, h] := by
  match ws, h with
  | [x0, x1, x2, x3, x4, x5, x6, x7], _ => exact ⟨_, _, _, _, _, _, _, _, rfl⟩
theorem shaW_length (m : Bs) : (shaW m).length = 8 := blks_length iv_length _ _
theorem HashM.new {T e b : Nat} : HashM T e b [] ([(b, Obj.cells (hc iv (.slice none 0 0) 0).toArray T (0, 0))] ++ []) := ⟨.slice none 0 0, [], rfl, Ow.nil B8 e⟩
end Go.Proofs.YthhdilafnfcpbaaDoor
/- Plain facts: the sum of abc. -/
namespace Go.Proofs.YthhdilafnfcpbaaDoor
open Go
section
variable {P : Program} {E : Env} {t t' ty : TypeId} {w : World} {x y : Operand} {n : Nat} {vx vy : Array Value}
end
end Go.Proofs.YthhdilafnfcpbaaDoor
/- Plain laws of layer 3: the mac. -/
namespace Go.Proofs.YthhdilafnfcpbaaDoor
open Go
set_option linter.unusedVariables false
set_option linter.unusedSimpArgs false

/-- a key's block -/
def kk (key : Bs) : Bs := (if 64 < key.length then sha key else key) ++ List.replicate (64 - (if 64 < key.length then sha key else key).length) 0#8
def xorB (c : BitVec 8) (l : Bs) : Bs := l.map (· ^^^ c)
@[simp] theorem xorB_length (c : BitVec 8) (l : Bs) : (xorB c l).length = l.length := by simp [xorB]
/-- one round -/
def rndB (b : Bs) (c : BitVec 8) (text : Bs) : Bs := sha (xorB c b ++ text)
def macV (key text : Bs) : Bs := rndB (kk key) 92#8 (rndB (kk key) 54#8 text)
@[simp] theorem rndB_length (b : Bs) (c : BitVec 8) (text : Bs) : (rndB b c text).length = 32 := by simp [rndB]
@[simp] theorem macV_length (key text : Bs) : (macV key text).length = 32 := by simp [macV]

/-- the first i bytes xored -/
def xorTo (b : Bs) (c : BitVec 8) (i : Nat) : Bs := (b.take i).map (· ^^^ c) ++ b.drop i
@[simp] theorem xorTo_length (b : Bs) (c : BitVec 8) (i : Nat) : (xorTo b c i).length = b.length := by
  simp [xorTo]; omega
/-- the reference: what goes in, a byte at a time -/
def kin (key : Bs) (c : BitVec 8) (i : Nat) : Bs := (List.range i).map fun j => key.getD j 0#8 ^^^ c
@[simp] theorem kin_length (key : Bs) (c : BitVec 8) (i : Nat) : (kin key c i).length = i := by simp [kin]
section
variable {P : Program} {E : Env} {ty t t' : TypeId} {w : World} {x y : Operand} {M : List Nat} {w0 : World} {Hs : List Hl}
end
/-- one step of the comparison that does not stop -/
theorem same_step (A B : Bs) {i z : Nat} {c : BitVec 8} (hi : i < A.length) (hBA : B.length ≤ A.length) (hz : z = 0 ↔ A.length = B.length ∧ A.take i = B.take i) (hc : i < B.length → c = B.getD i 0#8) :
    (z ||| (A.getD i 0#8 ^^^ c).toNat) = 0 ↔ A.length = B.length ∧ A.take (i + 1) = B.take (i + 1) := by
  rw [Nat.or_eq_zero_iff, hz]
  constructor
  · rintro ⟨⟨h1, h2⟩, h3⟩
    have hB : i < B.length := by omega
    have hx : A.getD i 0#8 = c := by
      have : A.getD i 0#8 ^^^ c = 0#8 := BitVec.eq_of_toNat_eq (by simpa using h3)
      simpa using (BitVec.xor_eq_zero_iff).1 this
    refine ⟨h1, ?_⟩
    rw [take_snoc (d := 0#8) A hi, take_snoc (d := 0#8) B hB, h2, hx, hc hB]
  · rintro ⟨h1, h2⟩
    have hB : i < B.length := by omega
    rw [take_snoc (d := 0#8) A hi, take_snoc (d := 0#8) B hB] at h2
    have h3 := List.append_inj h2 (by simp; omega)
    refine ⟨⟨h1, h3.1⟩, ?_⟩
    have h4 : A.getD i 0#8 = B.getD i 0#8 := by simpa using h3.2
    rw [h4, hc hB]
    simp
theorem same_fin (A B : Bs) {z : Nat} (hz : z = 0 ↔ A.length = B.length ∧ A.take A.length = B.take A.length) : ((z : Int) = 0) ↔ A = B := by
  have : ((z : Int) = 0) ↔ z = 0 := by omega
  rw [this, hz]
  constructor
  · rintro ⟨h1, h2⟩
    rw [List.take_length, h1, List.take_length] at h2
    exact h2
  · rintro rfl
    simp
theorem or_lt {a b : Nat} (ha : a < 4611686018427387904) (hb : b < 256) : a ||| b < 4611686018427387904 := Nat.or_lt_two_pow (n := 62) ha (by omega)
end Go.Proofs.YthhdilafnfcpbaaDoor
/- A text's bytes. -/
namespace Go.Proofs.YthhdilafnfcpbaaDoor
open Go
/-- x[:n:n] of a slice of one's own -/
theorem Own.cut3 {E0 k c : Nat} {v : Value} {cs : List Value} {N : Hl} (hO : Own E0 k v c cs N) (n : Nat) (hn : n ≤ c) :
    ∃ v', (∀ a cap, v = .slice a c cap → v' = .slice (if n = 0 then a else a.map (·.add (0 * k))) n n) ∧ (∀ a cap, v = .slice a c cap → c ≤ cap) ∧ Own E0 k v' n (cs.take (n * k)) N := by
  obtain ⟨h1, h2⟩ := hO
  have hk : n * k ≤ c * k := Nat.mul_le_mul_right k hn
  rcases h2 with ⟨rfl, rfl, rfl⟩ | ⟨b, off, cap, pre, sp, fr, rfl, rfl, hoff, hcap, hsp, hfr⟩
  · obtain rfl : n = 0 := by omega
    refine ⟨.slice none 0 0, fun a cap e => by cases e; rfl, fun a cap e => by cases e; exact Nat.le_refl _, by simp, .inl ⟨rfl, rfl, rfl⟩⟩
  · have eq : pre ++ cs ++ sp = pre ++ cs.take (n * k) ++ (cs.drop (n * k) ++ sp) := by
      conv => lhs; rw [← List.take_append_drop (n * k) cs]
      simp only [List.append_assoc]
    refine ⟨.slice (some ⟨b, off, none⟩) n n, fun a cap e => ?_, fun a cap e => by cases e; exact hcap, by simp; omega, .inr ⟨b, off, n, pre, cs.drop (n * k) ++ sp, fr, rfl, ?_, hoff, Nat.le_refl _, by simp, ?_⟩⟩
    · cases e
      split
      · rfl
      · simp [add_off]
    · rw [← eq]
    · rw [← eq]
      exact hfr
theorem q_slice3 {P : Program} {E : Env} {ty t : TypeId} {w : World} {x y y' : Operand} {e k bb : Nat} {z : Value} {v v' : Value} {c n : Nat} {m m' : Int} (hT : P.underlying t = some (.slice e)) (he : TI P e k bb z) (hx : E.ev x = some v)
    (hv' : ∀ a cap, v = .slice a c cap → v' = .slice (if n = 0 then a else a.map (·.add (0 * k))) n n) (hc : ∀ a cap, v = .slice a c cap → c ≤ cap) (hr : Shp v c) (hy : E.ev y = some (I m)) (hy' : E.ev y' = some (I m')) (hm : m = n) (hm' : m' = n) (hn : n ≤ c) :
    Runs P E (.slice t x none (some y) (some y')) ty w v' := by
  intro ρ dst pos af g hρ
  obtain ⟨a, cap, rfl, e3, _⟩ := hr
  rw [hv' a cap rfl]
  have hcap := hc a cap rfl
  subst hm hm'
  have h1 : (Instr.sliceBounds true c cap none (some (I (n : Int))) (some (I (n : Int)))).run P w = .ok (0, n, n) w := by
    simp [Instr.sliceBounds, Instr.sliceBound, asIntOf, show n ≤ cap by omega]
  simp [execOp, hρ _ _ hx, hρ _ _ hy, hρ _ _ hy', Instr.sliceAt, Instr.slice, run_underlying hT, h1, he.size]
end Go.Proofs.YthhdilafnfcpbaaDoor
/- The first text that is derived from; nothing as a slice. -/
namespace Go.Proofs.YthhdilafnfcpbaaDoor
open Go
theorem By.nil {w : World} : By [] w (.slice none 0 0) [] := ⟨rfl, none, 0, rfl, Nat.le_refl _, fun _ => ⟨rfl, rfl⟩, fun _ h => by cases h⟩
end Go.Proofs.YthhdilafnfcpbaaDoor
