/- Plain laws of layer 2: what is hashed; and a hash in memory. -/
import Derived.Test.YtipjpbfledddaaaDoorMb
import Derived.Test.YtipjpbfledddaaaDoorLl
namespace Go.Proofs.YtipjpbfledddaaaDoor
open Go
set_option linter.unusedVariables false
set_option linter.unusedSimpArgs false

abbrev Bs := List (BitVec 8)

/-- the words behind the first k blocks -/
def blks (s : List W) (m : Bs) : Nat → List W
  | 0 => s
  | k + 1 => blk (blks s m k) ((m.drop (64 * k)).take 64)
theorem blks_length {s : List W} (hs : s.length = 8) (m : Bs) : ∀ k, (blks s m k).length = 8
  | 0 => hs
  | k + 1 => by simp [blks]
theorem blks_append (s : List W) (m l : Bs) : ∀ {k : Nat}, 64 * k ≤ m.length → blks s (m ++ l) k = blks s m k
  | 0, _ => rfl
  | k + 1, h => by
    rw [blks, blks, blks_append s m l (by omega)]
    congr 1
    rw [List.drop_append_of_le_length (by omega), List.take_append_of_le_length (by simp; omega)]

/-- what fills up n bytes -/
def padB (n : Nat) : Bs := [128#8] ++ List.replicate ((119 - n % 64) % 64) 0#8 ++ beB (BitVec.ofNat 64 n <<< 3) 8
theorem padB_length (n : Nat) : (padB n).length = 9 + (119 - n % 64) % 64 := by simp [padB, beB_length]; omega
theorem padB_whole (n : Nat) : (n + (padB n).length) % 64 = 0 := by rw [padB_length]; omega

theorem pad_prog {n : Nat} : (List.replicate (1 + (119 - n % 64) % 64) 0#8).set 0 128#8 ++ beB (BitVec.ofInt 64 (n : Int) <<< 3) 8 = padB n := by
  rw [BitVec.ofInt_natCast, padB, Nat.add_comm 1, List.replicate_succ]
  rfl
theorem mul8 (x c : BitVec 64) (hc : c.toNat = 8) : x * c = x <<< 3 := by
  apply BitVec.eq_of_toNat_eq
  rw [BitVec.toNat_mul, BitVec.toNat_shiftLeft, hc, Nat.shiftLeft_eq]
theorem pad_ref {n : Nat} : (128#8 :: List.replicate ((119 - n % 64) % 64) 0#8) ++ beB (BitVec.ofInt 64 (n : Int) * 8#64) 8 = padB n := by
  rw [mul8 _ _ (by decide), BitVec.ofInt_natCast, padB]; rfl
theorem rep_snoc {α : Type} (x y : α) (n : Nat) : (x :: List.replicate n y) ++ [y] = x :: List.replicate (n + 1) y := by
  rw [List.replicate_succ']; rfl
theorem drop_next (X : Bs) (k : Nat) : ((X.drop (64 * k)).drop 64).take ((X.drop (64 * k)).length - 64) = X.drop (64 * (k + 1)) := by
  rw [List.drop_drop, List.take_of_length_le (by simp; omega)]; congr 1
theorem and3 (i : Nat) : i &&& 3 = i % 4 := Nat.and_two_pow_sub_one_eq_mod i 2

/-- a sum's bytes -/
def dig (s : List W) : Bs := (List.range 32).map fun i => (s.getD (i / 4) 0#32 >>> (24 - 8 * (i % 4))).setWidth 8
@[simp] theorem dig_length (s : List W) : (dig s).length = 32 := by simp [dig]
/-- the first i of them -/
def digTo (s : List W) (i : Nat) : Bs := (dig s).take i ++ List.replicate (32 - i) 0#8
theorem digTo_zero (s : List W) : digTo s 0 = List.replicate 32 0#8 := by simp [digTo]
theorem digTo_end (s : List W) : digTo s 32 = dig s := by
  rw [digTo, List.take_of_length_le (by simp)]; simp
@[simp] theorem digTo_length (s : List W) {i : Nat} (h : i ≤ 32) : (digTo s i).length = 32 := by simp [digTo]; omega
theorem digTo_set (s : List W) {i : Nat} (h : i < 32) : (digTo s i).set i ((s.getD (i / 4) 0#32 >>> (24 - 8 * (i % 4))).setWidth 8) = digTo s (i + 1) := by
  have e : 32 - i = (32 - (i + 1)) + 1 := by omega
  have hl : ((dig s).take i).length = i := by simp; omega
  rw [digTo, List.set_append_right _ _ (by omega), hl, Nat.sub_self, e, List.replicate_succ, List.set_cons_zero, digTo, take_snoc (d := 0#8) (dig s) (by simp; omega)]
  have : (dig s).getD i 0#8 = (s.getD (i / 4) 0#32 >>> (24 - 8 * (i % 4))).setWidth 8 := by simp [dig, List.getD, h]
  rw [this]
  simp

/-- the words of a message that is filled up -/
def shaW (m : Bs) : List W := blks iv (m ++ padB m.length) ((m ++ padB m.length).length / 64)
/-- the sum of a message -/
def sha (m : Bs) : Bs := dig (shaW m)
@[simp] theorem sha_length (m : Bs) : (sha m).length = 32 := by simp [sha]

/-! ### a hash in memory -/
/-- its cells -/
def hc (ws : List W) (v : Value) (n : Nat) : List Value := ws.map U32 ++ [v, I n]
theorem hc_8 {ws : List W} (h : ws.length = 8) (v : Value) (n : Nat) : (hc ws v n)[8]? = some v := by simp [hc, List.getElem?_append, h]
theorem hc_9 {ws : List W} (h : ws.length = 8) (v : Value) (n : Nat) : (hc ws v n)[9]? = some (I n) := by simp [hc, List.getElem?_append, h]
theorem hc_w {ws : List W} (h : ws.length = 8) (v : Value) (n : Nat) {i : Nat} (hi : i < 8) : (hc ws v n)[i]? = some (U32 (ws.getD i 0#32)) := by
  simp [hc, List.getElem?_append, h, hi, List.getD]
theorem hc_len {ws : List W} (h : ws.length = 8) (v : Value) (n : Nat) : (hc ws v n).length = 10 := by simp [hc, h]
theorem hc_set8 {ws : List W} (h : ws.length = 8) (v v' : Value) (n : Nat) : (hc ws v n).set 8 v' = hc ws v' n := by
  rw [hc, List.set_append_right _ _ (by simp [h])]; simp [h, hc]
theorem hc_set9 {ws : List W} (h : ws.length = 8) (v : Value) (n n' : Nat) : (hc ws v n).set 9 (I n') = hc ws v n' := by
  rw [hc, List.set_append_right _ _ (by simp [h])]; simp [h, hc]
theorem hc_take {ws : List W} (h : ws.length = 8) (v : Value) (n : Nat) : ((hc ws v n).drop 0).take 8 = ws.map U32 := by
  rw [hc, List.drop_zero, List.take_append_of_le_length (by simp [h]), List.take_of_length_le (by simp [h])]
theorem hc_put {ws ws' : List W} (h : ws.length = 8) (h' : ws'.length = 8) (v : Value) (n : Nat) : putAt (hc ws v n) 0 (ws'.map U32) = hc ws' v n := by
  rw [putAt_eq _ _ _ (by simp [hc_len h, h']), hc, List.take_zero, List.drop_append]
  simp [h, h', hc]
/-- a hash of the message m, its block b -/
def HashM (T e : Nat) (b : Nat) (m : Bs) (N : Hl) : Prop :=
  ∃ v Nr, N = [(b, Obj.cells (hc (blks iv m (m.length / 64)) v m.length).toArray T (0, 0))] ++ Nr ∧ Ow B8 e v (m.drop (64 * (m.length / 64))) Nr

theorem HS.split {M : List Nat} {w0 w : World} {N1 N2 : Hl} {rest : List Hl} (h : HS M w0 w ((N1 ++ N2) :: rest)) : HS M w0 w (N1 :: N2 :: rest) := by
  have hnd := h.nd _ List.mem_cons_self
  rw [List.map_append, List.nodup_append] at hnd
  have hap := List.pairwise_cons.1 h.ap
  have mem : ∀ N ∈ N1 :: N2 :: rest, ∀ p ∈ N, ∃ N' ∈ (N1 ++ N2) :: rest, p ∈ N' := fun N hN p hp => by
    rcases List.mem_cons.1 hN with rfl | hN
    · exact ⟨_, List.mem_cons_self, List.mem_append_left _ hp⟩
    · rcases List.mem_cons.1 hN with rfl | hN
      · exact ⟨_, List.mem_cons_self, List.mem_append_right _ hp⟩
      · exact ⟨N, List.mem_cons_of_mem _ hN, hp⟩
  refine ⟨h.os, h.tape, h.output, h.size, h.old, fun N hN p hp => ?_, fun N hN => ?_, ?_, fun N hN p hp => ?_⟩
  · obtain ⟨N', hN', hp'⟩ := mem N hN p hp
    exact h.has N' hN' p hp'
  · rcases List.mem_cons.1 hN with rfl | hN
    · exact hnd.1
    · rcases List.mem_cons.1 hN with rfl | hN
      · exact hnd.2.1
      · exact h.nd N (List.mem_cons_of_mem _ hN)
  · refine List.pairwise_cons.2 ⟨fun N hN p hp q hq => ?_, List.pairwise_cons.2 ⟨fun N hN p hp q hq => hap.1 N hN p (List.mem_append_right _ hp) q hq, hap.2⟩⟩
    rcases List.mem_cons.1 hN with rfl | hN
    · exact hnd.2.2 _ (List.mem_map_of_mem (f := (·.1)) hp) _ (List.mem_map_of_mem (f := (·.1)) hq)
    · exact hap.1 N hN p (List.mem_append_left _ hp) q hq
  · obtain ⟨N', hN', hp'⟩ := mem N hN p hp
    exact h.dom N' hN' p hp'
theorem HS.join {M : List Nat} {w0 w : World} {N1 N2 : Hl} {rest : List Hl} (h : HS M w0 w (N1 :: N2 :: rest)) : HS M w0 w ((N1 ++ N2) :: rest) := by
  have hap := List.pairwise_cons.1 h.ap
  have hap2 := List.pairwise_cons.1 hap.2
  have h1 := h.nd N1 (by simp)
  have h2 := h.nd N2 (by simp)
  refine ⟨h.os, h.tape, h.output, h.size, h.old, fun N hN p hp => ?_, fun N hN => ?_, ?_, fun N hN p hp => ?_⟩
  · rcases List.mem_cons.1 hN with rfl | hN
    · rcases List.mem_append.1 hp with hp | hp
      · exact h.has N1 (by simp) p hp
      · exact h.has N2 (by simp) p hp
    · exact h.has N (by simp [hN]) p hp
  · rcases List.mem_cons.1 hN with rfl | hN
    · rw [List.map_append, List.nodup_append]
      refine ⟨h1, h2, fun a ha b hb => ?_⟩
      obtain ⟨p, hp, rfl⟩ := List.mem_map.1 ha
      obtain ⟨q, hq, rfl⟩ := List.mem_map.1 hb
      exact hap.1 N2 (by simp) p hp q hq
    · exact h.nd N (by simp [hN])
  · refine List.pairwise_cons.2 ⟨fun N hN p hp q hq => ?_, hap2.2⟩
    rcases List.mem_append.1 hp with hp | hp
    · exact hap.1 N (by simp [hN]) p hp q hq
    · exact hap2.1 N hN p hp q hq
  · rcases List.mem_cons.1 hN with rfl | hN
    · rcases List.mem_append.1 hp with hp | hp
      · exact h.dom N1 (by simp) p hp
      · exact h.dom N2 (by simp) p hp
    · exact h.dom N (by simp [hN]) p hp

/-- what is read of a heaplet that nobody writes -/
def RO (M : List Nat) (w : World) (N : Hl) : Prop := ∀ p ∈ N, w.heap[p.1]? = some p.2 ∧ p.1 ∉ M
theorem RO.of {M : List Nat} {w0 w : World} {Hs : List Hl} (h : HS M w0 w Hs) (i : Nat) {N : Hl} (hi : nth? Hs i = some N) : RO [] w N := by
  rw [nth?_eq] at hi
  exact fun p hp => ⟨h.has N (List.mem_of_getElem? hi) p hp, by simp⟩
theorem RO.later {M : List Nat} {w0 w : World} {Hs : List Hl} {N : Hl} (h : RO M w0 N) (hH : HS M w0 w Hs) : RO [] w N := fun p hp => by
  obtain ⟨h1, h2⟩ := h p hp
  exact ⟨by rw [hH.old _ (Array.getElem?_eq_some_iff.1 h1).1 h2]; exact h1, by simp⟩
theorem Own.ro {M : List Nat} {E k : Nat} {v : Value} {n : Nat} {cs : List Value} {N : Hl} {w : World} (h : Own E k v n cs N) (hN : RO M w N) : Rd M w v n k cs := by
  obtain ⟨h1, h2⟩ := h
  refine ⟨h1, ?_⟩
  rcases h2 with ⟨rfl, rfl, rfl⟩ | ⟨b, off, cap, pre, sp, fr, rfl, rfl, hoff, hcap, hsp, hfr⟩
  · exact ⟨none, 0, rfl, Nat.le_refl _, fun _ => ⟨rfl, rfl⟩, fun ad h => by cases h⟩
  · refine ⟨some ⟨b, off, none⟩, cap, rfl, hcap, (fun h => by cases h), fun ad had _ => ?_⟩
    cases had
    obtain ⟨g1, g2⟩ := hN (b, _) (List.mem_singleton.2 rfl)
    refine ⟨rfl, g2, _, E, fr, g1, ?_, fun i hi => ?_⟩
    · simp only [List.size_toArray, List.length_append, h1, hoff]
      have : cap * k = n * k + (cap - n) * k := by rw [← Nat.add_mul]; congr 1; omega
      omega
    · simp only [List.getElem?_toArray]
      rw [List.append_assoc, List.getElem?_append_right (by omega), hoff, Nat.add_sub_cancel_left, List.getElem?_append_left (by omega)]
theorem q_loadRO {P : Program} {E : Env} {ty t : TypeId} {w : World} {x : Operand} {N : Hl} {M : List Nat} {d : TypeDesc} {b o T : Nat} {fr : Nat × Nat} {c : List Value} {u : Value} (hN : RO M w N) (hm : (b, Obj.cells c.toArray T fr) ∈ N)
    (hT : P.underlying t = some d) (hf : flat d = true) (hx : E.ev x = some (.pointer (some ⟨b, o, none⟩))) (hu : c[o]? = some u) : Runs P E (.load t x) ty w u :=
  q_load_cell hT hf hx (by rw [cell_at (hN _ hm).1]; simpa using hu)
theorem q_loadROA {P : Program} {E : Env} {ty t : TypeId} {w : World} {x : Operand} {N : Hl} {M : List Nat} {d : TypeDesc} {b o T k bb : Nat} {z : Value} {fr : Nat × Nat} {c : List Value} (hN : RO M w N) (hm : (b, Obj.cells c.toArray T fr) ∈ N)
    (hT : P.underlying t = some d) (hf : flat d = false) (he : TI P t k bb z) (hx : E.ev x = some (.pointer (some ⟨b, o, none⟩))) (es : List Value) (hes : (c.drop o).take k = es) (hk : es.length = k) : Runs P E (.load t x) ty w (.agg es.toArray) := by
  refine q_loadA hT hf he hx es hk fun j u hu => ?_
  rw [add_off, cell_at (hN _ hm).1]
  rw [← hes, List.getElem?_take] at hu
  split at hu
  · simpa using hu
  · cases hu
theorem eight {ws : List W} (h : ws.length = 8) : ∃ a b c d e f g h, ws = [a, b, c, d, e, f, g, h] := by
  match ws, h with
  | [x0, x1, x2, x3, x4, x5, x6, x7], _ => exact ⟨_, _, _, _, _, _, _, _, rfl⟩
theorem shaW_length (m : Bs) : (shaW m).length = 8 := blks_length iv_length _ _
theorem HashM.new {T e b : Nat} : HashM T e b [] ([(b, Obj.cells (hc iv (.slice none 0 0) 0).toArray T (0, 0))] ++ []) := ⟨.slice none 0 0, [], rfl, Ow.nil B8 e⟩
end Go.Proofs.YtipjpbfledddaaaDoor
