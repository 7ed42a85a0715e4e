/- Plain laws of layer 2: SHA-256. No program in sight. -/
import Derived.Test.YtipjpbfledddaaaDoorMa
namespace Go.Proofs.YtipjpbfledddaaaDoor
open Go
set_option linter.unusedVariables false
set_option linter.unusedSimpArgs false

abbrev W := BitVec 32

def kTab : List W := [0x428a2f98#32, 0x71374491#32, 0xb5c0fbcf#32, 0xe9b5dba5#32, 0x3956c25b#32, 0x59f111f1#32, 0x923f82a4#32, 0xab1c5ed5#32,
  0xd807aa98#32, 0x12835b01#32, 0x243185be#32, 0x550c7dc3#32, 0x72be5d74#32, 0x80deb1fe#32, 0x9bdc06a7#32, 0xc19bf174#32,
  0xe49b69c1#32, 0xefbe4786#32, 0x0fc19dc6#32, 0x240ca1cc#32, 0x2de92c6f#32, 0x4a7484aa#32, 0x5cb0a9dc#32, 0x76f988da#32,
  0x983e5152#32, 0xa831c66d#32, 0xb00327c8#32, 0xbf597fc7#32, 0xc6e00bf3#32, 0xd5a79147#32, 0x06ca6351#32, 0x14292967#32,
  0x27b70a85#32, 0x2e1b2138#32, 0x4d2c6dfc#32, 0x53380d13#32, 0x650a7354#32, 0x766a0abb#32, 0x81c2c92e#32, 0x92722c85#32,
  0xa2bfe8a1#32, 0xa81a664b#32, 0xc24b8b70#32, 0xc76c51a3#32, 0xd192e819#32, 0xd6990624#32, 0xf40e3585#32, 0x106aa070#32,
  0x19a4c116#32, 0x1e376c08#32, 0x2748774c#32, 0x34b0bcb5#32, 0x391c0cb3#32, 0x4ed8aa4a#32, 0x5b9cca4f#32, 0x682e6ff3#32,
  0x748f82ee#32, 0x78a5636f#32, 0x84c87814#32, 0x8cc70208#32, 0x90befffa#32, 0xa4506ceb#32, 0xbef9a3f7#32, 0xc67178f2#32]
def iv : List W := [0x6a09e667#32, 0xbb67ae85#32, 0x3c6ef372#32, 0xa54ff53a#32, 0x510e527f#32, 0x9b05688c#32, 0x1f83d9ab#32, 0x5be0cd19#32]

@[simp] theorem kTab_length : kTab.length = 64 := rfl
@[simp] theorem iv_length : iv.length = 8 := rfl
def ss0 (x : W) : W := rotR x 7 ^^^ rotR x 18 ^^^ x >>> 3
def ss1 (x : W) : W := rotR x 17 ^^^ rotR x 19 ^^^ x >>> 10
def bs0 (x : W) : W := rotR x 2 ^^^ rotR x 13 ^^^ rotR x 22
def bs1 (x : W) : W := rotR x 6 ^^^ rotR x 11 ^^^ rotR x 25
def ch (e f g : W) : W := e &&& f ^^^ ~~~e &&& g
def maj (a b c : W) : W := a &&& b ^^^ a &&& c ^^^ b &&& c

theorem ch_prog (e f g : W) : g ^^^ e &&& (f ^^^ g) = ch e f g := by
  apply BitVec.eq_of_getLsbD_eq
  intro i hi
  simp only [ch, BitVec.getLsbD_xor, BitVec.getLsbD_and, BitVec.getLsbD_not, hi, decide_true, Bool.true_and]
  cases e.getLsbD i <;> cases f.getLsbD i <;> cases g.getLsbD i <;> rfl
theorem maj_prog (a b c : W) : a &&& b ||| c &&& (a ||| b) = maj a b c := by
  apply BitVec.eq_of_getLsbD_eq
  intro i hi
  simp only [maj, BitVec.getLsbD_xor, BitVec.getLsbD_and, BitVec.getLsbD_or]
  cases a.getLsbD i <;> cases b.getLsbD i <;> cases c.getLsbD i <;> rfl

/-- the words of a block, the first t -/
def schNext (l : List (BitVec 8)) (ws : List W) (t : Nat) : W :=
  if t < 16 then word l (4 * t) else ss1 (ws.getD (t - 2) 0#32) + ws.getD (t - 7) 0#32 + ss0 (ws.getD (t - 15) 0#32) + ws.getD (t - 16) 0#32
def sched (l : List (BitVec 8)) : Nat → List W
  | 0 => []
  | t + 1 => sched l t ++ [schNext l (sched l t) t]
@[simp] theorem sched_length (l : List (BitVec 8)) : ∀ t, (sched l t).length = t
  | 0 => rfl
  | t + 1 => by simp [sched, sched_length l t]

structure St where
  a : W
  b : W
  c : W
  d : W
  e : W
  f : W
  g : W
  h : W
def St.list (s : St) : List W := [s.a, s.b, s.c, s.d, s.e, s.f, s.g, s.h]
def St.of (l : List W) : St := ⟨l.getD 0 0#32, l.getD 1 0#32, l.getD 2 0#32, l.getD 3 0#32, l.getD 4 0#32, l.getD 5 0#32, l.getD 6 0#32, l.getD 7 0#32⟩
theorem St.of_list {l : List W} (h : l.length = 8) : (St.of l).list = l := by
  match l, h with
  | [x0, x1, x2, x3, x4, x5, x6, x7], _ => rfl
def rndT1 (s : St) (k w : W) : W := s.h + bs1 s.e + ch s.e s.f s.g + k + w
def rndT2 (s : St) : W := bs0 s.a + maj s.a s.b s.c
def rnd (s : St) (k w : W) : St := ⟨rndT1 s k w + rndT2 s, s.a, s.b, s.c, s.d + rndT1 s k w, s.e, s.f, s.g⟩
def rnds (ws : List W) (s : St) : Nat → St
  | 0 => s
  | t + 1 => rnd (rnds ws s t) (kTab.getD t 0#32) (ws.getD t 0#32)
def addAll (s : List W) (v : St) : List W := [s.getD 0 0#32 + v.a, s.getD 1 0#32 + v.b, s.getD 2 0#32 + v.c, s.getD 3 0#32 + v.d, s.getD 4 0#32 + v.e, s.getD 5 0#32 + v.f, s.getD 6 0#32 + v.g, s.getD 7 0#32 + v.h]
/-- the words behind a block -/
def blk (s : List W) (l : List (BitVec 8)) : List W := addAll s (rnds (sched l 64) (St.of s) 64)
@[simp] theorem blk_length (s : List W) (l : List (BitVec 8)) : (blk s l).length = 8 := rfl

/-- what stands in the array when t words are there -/
theorem sch_get {l : List (BitVec 8)} {t i n : Nat} (hi : i < t) : (sched l t ++ List.replicate n 0#32).getD i 0#32 = (sched l t).getD i 0#32 := by
  have := sched_length l t
  simp [List.getD, List.getElem?_append, hi]
theorem sch_set {l : List (BitVec 8)} {t : Nat} (ht : t < 64) (x : W) (hx : x = schNext l (sched l t) t) : (sched l t ++ List.replicate (64 - t) 0#32).set t x = sched l (t + 1) ++ List.replicate (64 - (t + 1)) 0#32 := by
  have hl := sched_length l t
  have e : 64 - t = (64 - (t + 1)) + 1 := by omega
  rw [List.set_append_right _ _ (by omega), hl, Nat.sub_self, e, List.replicate_succ, sched, hx]
  simp
/-- the first i places added -/
def addTo (s : List W) (v : St) (i : Nat) : List W := (addAll s v).take i ++ s.drop i
theorem addTo_get {s : List W} (hs : s.length = 8) (v : St) {i : Nat} (hi : i < 8) : (addTo s v i).getD i 0#32 = s.getD i 0#32 := by
  match s, hs with
  | [x0, x1, x2, x3, x4, x5, x6, x7], _ =>
    match i, hi with
    | 0, _ | 1, _ | 2, _ | 3, _ | 4, _ | 5, _ | 6, _ | 7, _ => rfl
theorem addTo_set {s : List W} (hs : s.length = 8) (v : St) {i : Nat} (hi : i < 8) : (addTo s v i).set i (s.getD i 0#32 + v.list.getD i 0#32) = addTo s v (i + 1) := by
  match s, hs with
  | [x0, x1, x2, x3, x4, x5, x6, x7], _ =>
    match i, hi with
    | 0, _ | 1, _ | 2, _ | 3, _ | 4, _ | 5, _ | 6, _ | 7, _ => rfl
@[simp] theorem addTo_length {s : List W} (hs : s.length = 8) (v : St) {i : Nat} (hi : i ≤ 8) : (addTo s v i).length = 8 := by
  have : (addAll s v).length = 8 := rfl
  simp [addTo, this, hs]; omega
@[simp] theorem addAll_length (s : List W) (v : St) : (addAll s v).length = 8 := rfl
theorem addTo_end {s : List W} (hs : s.length = 8) (v : St) : addTo s v 8 = addAll s v := by
  have : (addAll s v).length = 8 := rfl
  rw [addTo, List.take_of_length_le (by omega), List.drop_eq_nil_of_le (by omega), List.append_nil]
@[simp] theorem St.list_length (s : St) : s.list.length = 8 := rfl
theorem sch_one (l : List (BitVec 8)) {t : Nat} (h : t < 16) : word l (4 * t) = schNext l (sched l t) t := by rw [schNext, if_pos h]
theorem sch_prog (l : List (BitVec 8)) {t n : Nat} (h : ¬ t < 16) :
    (sched l t ++ List.replicate n 0#32).getD (t - 16) 0#32 + (sched l t ++ List.replicate n 0#32).getD (t - 7) 0#32 +
      (rotR ((sched l t ++ List.replicate n 0#32).getD (t - 15) 0#32) 7 ^^^ rotR ((sched l t ++ List.replicate n 0#32).getD (t - 15) 0#32) 18 ^^^ (sched l t ++ List.replicate n 0#32).getD (t - 15) 0#32 >>> 3) +
      (rotR ((sched l t ++ List.replicate n 0#32).getD (t - 2) 0#32) 17 ^^^ rotR ((sched l t ++ List.replicate n 0#32).getD (t - 2) 0#32) 19 ^^^ (sched l t ++ List.replicate n 0#32).getD (t - 2) 0#32 >>> 10) = schNext l (sched l t) t := by
  rw [schNext, if_neg h, sch_get (by omega), sch_get (by omega), sch_get (by omega), sch_get (by omega), ss0, ss1]
  ac_rfl
theorem sch_ref (l : List (BitVec 8)) {t n : Nat} (h : ¬ t < 16) :
    (rotR ((sched l t ++ List.replicate n 0#32).getD (t - 2) 0#32) 17 ^^^ rotR ((sched l t ++ List.replicate n 0#32).getD (t - 2) 0#32) 19 ^^^ (sched l t ++ List.replicate n 0#32).getD (t - 2) 0#32 >>> 10) +
      (sched l t ++ List.replicate n 0#32).getD (t - 7) 0#32 +
      (rotR ((sched l t ++ List.replicate n 0#32).getD (t - 15) 0#32) 7 ^^^ rotR ((sched l t ++ List.replicate n 0#32).getD (t - 15) 0#32) 18 ^^^ (sched l t ++ List.replicate n 0#32).getD (t - 15) 0#32 >>> 3) +
      (sched l t ++ List.replicate n 0#32).getD (t - 16) 0#32 = schNext l (sched l t) t := by
  rw [schNext, if_neg h, sch_get (by omega), sch_get (by omega), sch_get (by omega), sch_get (by omega), ss0, ss1]
theorem sched_end (l : List (BitVec 8)) : sched l 64 ++ List.replicate (64 - 64) 0#32 = sched l 64 := by simp
end Go.Proofs.YtipjpbfledddaaaDoor
