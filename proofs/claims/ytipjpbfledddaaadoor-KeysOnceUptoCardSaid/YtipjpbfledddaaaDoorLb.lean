/- Memory as a list of heaplets: what is known of blocks of one's own, apart from each other; all else is as it was. -/
import Derived.Test.YtipjpbfledddaaaDoorLa
namespace Go.Proofs.YtipjpbfledddaaaDoor
open Go
set_option linter.unusedVariables false
set_option linter.unusedSimpArgs false

abbrev Hl := List (Nat × Obj)

def Apart (N N' : Hl) : Prop := ∀ p ∈ N, ∀ q ∈ N', p.1 ≠ q.1

theorem Apart.symm {N N' : Hl} (h : Apart N N') : Apart N' N := fun p hp q hq e => h q hq p hp e.symm

/-- From w0 to w: nothing that was there has turned but the blocks M; w holds the heaplets Hs, apart from each other, each block of them one of M or new. -/
structure HS (M : List Nat) (w0 w : World) (Hs : List Hl) : Prop where
  os : w.os = w0.os
  tape : w.tape = w0.tape
  output : w.output = w0.output
  size : w0.heap.size ≤ w.heap.size
  old : ∀ b, b < w0.heap.size → b ∉ M → w.heap[b]? = w0.heap[b]?
  has : ∀ N ∈ Hs, ∀ p ∈ N, w.heap[p.1]? = some p.2
  nd : ∀ N ∈ Hs, (N.map (·.1)).Nodup
  ap : Hs.Pairwise Apart
  dom : ∀ N ∈ Hs, ∀ p ∈ N, p.1 ∈ M ∨ w0.heap.size ≤ p.1

def doms (Ns : List Hl) : List Nat := Ns.flatten.map (·.1)

theorem mem_doms {Ns : List Hl} {b : Nat} : b ∈ doms Ns ↔ ∃ N ∈ Ns, ∃ p ∈ N, p.1 = b := by
  simp only [doms, List.mem_map, List.mem_flatten]
  constructor
  · rintro ⟨p, ⟨N, hN, hp⟩, rfl⟩; exact ⟨N, hN, p, hp, rfl⟩
  · rintro ⟨N, hN, p, hp, rfl⟩; exact ⟨p, ⟨N, hN, hp⟩, rfl⟩

section
variable {M : List Nat} {w0 w : World} {Hs : List Hl}

theorem HS.lt (h : HS M w0 w Hs) {N : Hl} (hN : N ∈ Hs) {p : Nat × Obj} (hp : p ∈ N) : p.1 < w.heap.size :=
  (Array.getElem?_eq_some_iff.1 (h.has N hN p hp)).1

theorem HS.start (w : World) : HS [] w w [] := ⟨rfl, rfl, rfl, Nat.le_refl _, fun _ _ _ => rfl, by simp, by simp, by simp, by simp⟩

/-- at a function's begin: the heaplets that it was handed -/
theorem HS.begin {w : World} {Ns : List Hl} (h : ∀ N ∈ Ns, ∀ p ∈ N, w.heap[p.1]? = some p.2) (nd : ∀ N ∈ Ns, (N.map (·.1)).Nodup) (ap : Ns.Pairwise Apart) : HS (doms Ns) w w Ns :=
  ⟨rfl, rfl, rfl, Nat.le_refl _, fun _ _ _ => rfl, h, nd, ap, fun N hN p hp => .inl (mem_doms.2 ⟨N, hN, p, hp, rfl⟩)⟩

theorem HS.drew (h : HS M w0 w Hs) : HS M w0 w.drew Hs :=
  ⟨h.os, h.tape, h.output, h.size, h.old, h.has, h.nd, h.ap, h.dom⟩

theorem heap_push {w : World} {o : Obj} {b : Nat} (h : b < w.heap.size) : (w.alloc o).heap[b]? = w.heap[b]? := by
  show (w.heap.push o)[b]? = _
  rw [Array.getElem?_push, if_neg (by omega)]
theorem heap_push_new {w : World} {o : Obj} : (w.alloc o).heap[w.heap.size]? = some o := by
  show (w.heap.push o)[w.heap.size]? = _
  simp

theorem HS.alloc (h : HS M w0 w Hs) (o : Obj) : HS M w0 (w.alloc o) ([(w.heap.size, o)] :: Hs) := by
  refine ⟨h.os, h.tape, h.output, ?_, fun b hb hM => ?_, ?_, ?_, ?_, ?_⟩
  · have := h.size; simp; omega
  · have := h.size; rw [heap_push (by omega)]; exact h.old b hb hM
  · intro N hN p hp
    rcases List.mem_cons.1 hN with rfl | hN
    · simp at hp; subst hp; exact heap_push_new
    · rw [heap_push (h.lt hN hp)]; exact h.has N hN p hp
  · intro N hN
    rcases List.mem_cons.1 hN with rfl | hN
    · simp
    · exact h.nd N hN
  · refine List.pairwise_cons.2 ⟨fun N hN p hp q hq => ?_, h.ap⟩
    simp at hp; subst hp
    have := h.lt hN hq
    simp; omega
  · intro N hN p hp
    rcases List.mem_cons.1 hN with rfl | hN
    · simp at hp; subst hp; exact .inr h.size
    · exact h.dom N hN p hp

/-- picking heaplets out by their places -/
def nth? {α : Type} : List α → Nat → Option α
  | [], _ => none
  | x :: _, 0 => some x
  | _ :: r, i + 1 => nth? r i
def pick {α : Type} : List Nat → List α → List α
  | [], _ => []
  | i :: I, l => match nth? l i with
    | some x => x :: pick I l
    | none => pick I l

theorem nth?_eq {α : Type} : ∀ (l : List α) (i : Nat), nth? l i = l[i]?
  | [], _ => by simp [nth?]
  | x :: r, 0 => by simp [nth?]
  | x :: r, i + 1 => by simp [nth?, nth?_eq r i]

theorem mem_pick {α : Type} {l : List α} {x : α} : ∀ {I : List Nat}, x ∈ pick I l → ∃ i ∈ I, l[i]? = some x
  | [], h => by simp [pick] at h
  | i :: I, h => by
    unfold pick at h
    rw [nth?_eq] at h
    cases hi : l[i]? with
    | none => rw [hi] at h; obtain ⟨j, hj, hx⟩ := mem_pick (I := I) h; exact ⟨j, by simp [hj], hx⟩
    | some y =>
      rw [hi] at h
      rcases List.mem_cons.1 h with rfl | h
      · exact ⟨i, by simp, hi⟩
      · obtain ⟨j, hj, hx⟩ := mem_pick (I := I) h; exact ⟨j, by simp [hj], hx⟩

theorem pick_pairwise {l : List Hl} (h : l.Pairwise Apart) : ∀ {I : List Nat}, I.Nodup → (pick I l).Pairwise Apart
  | [], _ => by simp [pick]
  | i :: I, hI => by
    obtain ⟨hi, hI⟩ := List.nodup_cons.1 hI
    unfold pick
    rw [nth?_eq]
    cases hx : l[i]? with
    | none => exact pick_pairwise h hI
    | some x =>
      refine List.pairwise_cons.2 ⟨fun y hy => ?_, pick_pairwise h hI⟩
      obtain ⟨j, hj, hy⟩ := mem_pick hy
      have hne : i ≠ j := fun e => hi (e ▸ hj)
      have hp := List.pairwise_iff_getElem.1 h
      obtain ⟨hil, rfl⟩ := List.getElem?_eq_some_iff.1 hx
      obtain ⟨hjl, rfl⟩ := List.getElem?_eq_some_iff.1 hy
      rcases Nat.lt_or_gt_of_ne hne with hlt | hgt
      · exact hp i j hil hjl hlt
      · exact (hp j i hjl hil hgt).symm

theorem HS.pick (h : HS M w0 w Hs) (I : List Nat) {Hs' : List Hl} (he : pick I Hs = Hs') (hI : I.Nodup := by decide) : HS M w0 w Hs' := by
  subst he
  have hmem : ∀ N ∈ Go.Proofs.YtipjpbfledddaaaDoor.pick I Hs, N ∈ Hs := fun N hN => by
    obtain ⟨i, _, hx⟩ := mem_pick hN
    exact List.mem_of_getElem? hx
  exact ⟨h.os, h.tape, h.output, h.size, h.old, fun N hN => h.has N (hmem N hN), fun N hN => h.nd N (hmem N hN), pick_pairwise h.ap hI, fun N hN => h.dom N (hmem N hN)⟩

/-- behind a call to which the front heaplets were handed -/
theorem HS.call {w' : World} {Ns1 rest Ns2 : List Hl} (h : HS M w0 w (Ns1 ++ rest)) (hc : HS (doms Ns1) w w' Ns2) : HS M w0 w' (Ns2 ++ rest) := by
  have ha := List.pairwise_append.1 h.ap
  have key : ∀ N ∈ rest, ∀ p ∈ N, p.1 ∉ doms Ns1 := fun N hN p hp hm => by
    obtain ⟨N1, hN1, q, hq, he⟩ := mem_doms.1 hm
    exact ha.2.2 N1 hN1 N hN q hq p hp he
  have kept : ∀ N ∈ rest, ∀ p ∈ N, w'.heap[p.1]? = some p.2 := fun N hN p hp => by
    have hN' : N ∈ Ns1 ++ rest := List.mem_append_right _ hN
    rw [hc.old p.1 (h.lt hN' hp) (key N hN p hp)]
    exact h.has N hN' p hp
  refine ⟨hc.os.trans h.os, hc.tape.trans h.tape, hc.output.trans h.output, Nat.le_trans h.size hc.size, fun b hb hM => ?_, ?_, ?_, ?_, ?_⟩
  · rw [hc.old b (Nat.lt_of_lt_of_le hb h.size) ?_]
    · exact h.old b hb hM
    · intro hm
      obtain ⟨N, hN, p, hp, rfl⟩ := mem_doms.1 hm
      rcases h.dom N (List.mem_append_left _ hN) p hp with h1 | h1
      · exact hM h1
      · omega
  · intro N hN p hp
    rcases List.mem_append.1 hN with hN | hN
    · exact hc.has N hN p hp
    · exact kept N hN p hp
  · intro N hN
    rcases List.mem_append.1 hN with hN | hN
    · exact hc.nd N hN
    · exact h.nd N (List.mem_append_right _ hN)
  · refine List.pairwise_append.2 ⟨hc.ap, ha.2.1, fun N2 hN2 N hN p hp q hq e => ?_⟩
    rcases hc.dom N2 hN2 p hp with h1 | h1
    · exact key N hN q hq (e ▸ h1)
    · have := h.lt (List.mem_append_right _ hN) hq; omega
  · intro N hN p hp
    rcases List.mem_append.1 hN with hN | hN
    · rcases hc.dom N hN p hp with h1 | h1
      · obtain ⟨N1, hN1, q, hq, he⟩ := mem_doms.1 h1
        rw [← he]
        exact h.dom N1 (List.mem_append_left _ hN1) q hq
      · exact .inr (Nat.le_trans h.size h1)
    · exact h.dom N (List.mem_append_right _ hN) p hp

/-- behind a call that was handed nothing to write to -/
theorem HS.call0 {w' : World} {Ns2 : List Hl} (h : HS M w0 w Hs) (hc : HS [] w w' Ns2) : HS M w0 w' (Ns2 ++ Hs) :=
  HS.call (Ns1 := []) h hc

/-- what a callee is handed -/
theorem HS.handed {Ns1 rest : List Hl} (h : HS M w0 w (Ns1 ++ rest)) : HS (doms Ns1) w w Ns1 :=
  HS.begin (fun N hN => h.has N (List.mem_append_left _ hN)) (fun N hN => h.nd N (List.mem_append_left _ hN)) (List.pairwise_append.1 h.ap).1

/-- the heaplets in front have turned within their own blocks -/
theorem HS.turn {w' : World} {N N' : Hl} {rest : List Hl} (h : HS M w0 w (N :: rest)) (hos : w'.os = w.os) (htape : w'.tape = w.tape) (hout : w'.output = w.output)
    (hsize : w'.heap.size = w.heap.size) (hold : ∀ b, (∀ p ∈ N, p.1 ≠ b) → w'.heap[b]? = w.heap[b]?) (hdom : N'.map (·.1) = N.map (·.1)) (hnew : ∀ p ∈ N', w'.heap[p.1]? = some p.2) : HS M w0 w' (N' :: rest) := by
  have hsub : ∀ p ∈ N', ∃ q ∈ N, q.1 = p.1 := fun p hp => by
    have : p.1 ∈ N.map (·.1) := hdom ▸ List.mem_map_of_mem hp
    simpa using this
  refine HS.call (Ns1 := [N]) (Ns2 := [N']) h ⟨hos, htape, hout, by omega, fun b hb hM => hold b fun p hp e => hM (mem_doms.2 ⟨N, by simp, p, hp, e⟩), ?_, ?_, by simp, ?_⟩
  · intro N2 hN2 p hp
    obtain rfl : N2 = N' := by simpa using hN2
    exact hnew p hp
  · intro N2 hN2
    obtain rfl : N2 = N' := by simpa using hN2
    rw [hdom]
    exact h.nd N (by simp)
  · intro N2 hN2 p hp
    obtain rfl : N2 = N' := by simpa using hN2
    obtain ⟨q, hq, e⟩ := hsub p hp
    exact .inl (mem_doms.2 ⟨N, by simp, q, hq, e⟩)

theorem HS.at0 {b : Nat} {o : Obj} {i : Nat} {N : Hl} (h : HS M w0 w Hs) (hi : nth? Hs i = some N) (hm : (b, o) ∈ N) : w.heap[b]? = some o := by
  rw [nth?_eq] at hi
  exact h.has N (List.mem_of_getElem? hi) (b, o) hm
end

/-! ### slices that are read -/

/-- v is a slice of n elements of k cells; its cells read cs; its block is none of M -/
def Rd (M : List Nat) (w : World) (v : Value) (n k : Nat) (cs : List Value) : Prop :=
  cs.length = n * k ∧ ∃ a cap, v = .slice a n cap ∧ n ≤ cap ∧ (a = none → n = 0 ∧ cap = 0) ∧
    ∀ ad, a = some ad → 0 < cap → ad.spot = none ∧ ad.block ∉ M ∧ ∃ arr E fr, w.heap[ad.block]? = some (.cells arr E fr) ∧ ad.off + cap * k ≤ arr.size ∧
      ∀ i, i < n * k → arr[ad.off + i]? = cs[i]?

theorem Rd.len {M w v n k cs} (h : Rd M w v n k cs) : cs.length = n * k := h.1

theorem Rd.mono {M M' w v n k cs} (h : Rd M w v n k cs) (hM : ∀ m ∈ M', m ∈ M) : Rd M' w v n k cs := by
  obtain ⟨h1, a, cap, h2, h3, h4, h5⟩ := h
  refine ⟨h1, a, cap, h2, h3, h4, fun ad had hc => ?_⟩
  obtain ⟨h6, h7, h8⟩ := h5 ad had hc
  exact ⟨h6, fun hm => h7 (hM _ hm), h8⟩

theorem Rd.plain {M w v n k cs} (h : Rd M w v n k cs) : Rd [] w v n k cs := h.mono (by simp)

theorem Rd.heap {M w w' v n k cs} (h : Rd M w v n k cs) (hw : ∀ b, b < w.heap.size → b ∉ M → w'.heap[b]? = w.heap[b]?) : Rd M w' v n k cs := by
  obtain ⟨h1, a, cap, h2, h3, h4, h5⟩ := h
  refine ⟨h1, a, cap, h2, h3, h4, fun ad had hc => ?_⟩
  obtain ⟨h6, h7, arr, E, fr, h8, h9⟩ := h5 ad had hc
  exact ⟨h6, h7, arr, E, fr, by rw [hw _ (Array.getElem?_eq_some_iff.1 h8).1 h7]; exact h8, h9⟩

/-- an argument's slice, in a later world -/
theorem HS.rd {M w0 w Hs v n k cs} (h : HS M w0 w Hs) (hr : Rd M w0 v n k cs) : Rd [] w v n k cs := (hr.heap h.old).plain

/-- an argument's slice is apart from what a callee is handed -/
theorem HS.rdM {M w0 w v n k cs} {Ns1 rest : List Hl} (h : HS M w0 w (Ns1 ++ rest)) (hr : Rd M w0 v n k cs) : Rd (doms Ns1) w v n k cs := by
  have hr' := hr.heap h.old
  obtain ⟨h1, a, cap, h2, h3, h4, h5⟩ := hr'
  refine ⟨h1, a, cap, h2, h3, h4, fun ad had hc => ?_⟩
  obtain ⟨h6, h7, arr, E, fr, h8, h9⟩ := h5 ad had hc
  refine ⟨h6, fun hm => ?_, arr, E, fr, h8, h9⟩
  obtain ⟨N, hN, p, hp, he⟩ := mem_doms.1 hm
  obtain ⟨_, a0, cap0, e0, _, _, h50⟩ := hr
  rw [h2] at e0
  cases e0
  obtain ⟨_, _, arr0, E0, fr0, h80, _⟩ := h50 ad had hc
  have hlt := (Array.getElem?_eq_some_iff.1 h80).1
  rcases h.dom N (List.mem_append_left _ hN) p hp with h' | h'
  · exact h7 (he ▸ h')
  · omega

/-- the cell of an element -/
theorem Rd.cell {w v n k cs} (h : Rd [] w v n k cs) {i : Nat} (hi : i < n) (hk : 0 < k) :
    ∃ ad cap, v = .slice (some ad) n cap ∧ ad.spot = none ∧ ∀ j, j < k → w.cell? ⟨ad.block, ad.off + i * k + j, none⟩ = cs[i * k + j]? := by
  obtain ⟨h1, a, cap, h2, h3, h4, h5⟩ := h
  cases a with
  | none => have := (h4 rfl).1; omega
  | some ad =>
    obtain ⟨h6, _, arr, E, fr, h8, h9, h10⟩ := h5 ad rfl (by omega)
    refine ⟨ad, cap, h2, h6, fun j hj => ?_⟩
    have hlt : i * k + j < n * k := by
      have : (i + 1) * k ≤ n * k := Nat.mul_le_mul_right k hi
      rw [Nat.add_mul] at this; omega
    have := h10 (i * k + j) hlt
    simp [World.cell?, h8, Nat.add_assoc] at this ⊢
    exact this

/-! ### slices of one's own -/

/-- never frozen within n cells -/
def soft (fr : Nat × Nat) (n : Nat) : Prop := ∀ i, i < n → (decide (fr.1 ≤ i) && decide (i < fr.2)) = false

theorem soft0 (n : Nat) : soft (0, 0) n := fun i _ => by simp

/-- v is a slice of one's own, n elements of k cells of type E that hold cs; N is its memory -/
def Own (E k : Nat) (v : Value) (n : Nat) (cs : List Value) (N : Hl) : Prop :=
  cs.length = n * k ∧ ((v = .slice none 0 0 ∧ n = 0 ∧ N = []) ∨
    ∃ b off cap pre sp fr, v = .slice (some ⟨b, off, none⟩) n cap ∧ N = [(b, .cells (pre ++ cs ++ sp).toArray E fr)] ∧ pre.length = off ∧ n ≤ cap ∧ (cap - n) * k ≤ sp.length ∧
      soft fr (pre ++ cs ++ sp).length)

theorem Own.len {E k v n cs N} (h : Own E k v n cs N) : cs.length = n * k := h.1

theorem Own.rd {M w0 w Hs E k v n cs N} (h : Own E k v n cs N) (hH : HS M w0 w Hs) (hN : N ∈ Hs) (M' : List Nat) (hM : ∀ p ∈ N, p.1 ∉ M') : Rd M' w v n k cs := by
  obtain ⟨h1, h2⟩ := h
  refine ⟨h1, ?_⟩
  rcases h2 with ⟨rfl, rfl, rfl⟩ | ⟨b, off, cap, pre, sp, fr, rfl, rfl, hoff, hcap, hsp, hfr⟩
  · exact ⟨none, 0, rfl, Nat.le_refl _, fun _ => ⟨rfl, rfl⟩, fun ad h => by cases h⟩
  · refine ⟨some ⟨b, off, none⟩, cap, rfl, hcap, (fun h => by cases h), fun ad had _ => ?_⟩
    cases had
    refine ⟨rfl, hM (b, _) (List.mem_singleton.2 rfl), _, E, fr, hH.has _ hN (b, _) (List.mem_singleton.2 rfl), ?_, fun i hi => ?_⟩
    · simp only [List.size_toArray, List.length_append, h1, hoff]
      have : cap * k = n * k + (cap - n) * k := by rw [← Nat.add_mul]; congr 1; omega
      omega
    · simp only [List.getElem?_toArray]
      rw [List.append_assoc, List.getElem?_append_right (by omega), hoff, Nat.add_sub_cancel_left, List.getElem?_append_left (by omega)]

theorem Own.rd0 {M w0 w Hs E k v n cs N} (h : Own E k v n cs N) (hH : HS M w0 w Hs) (i : Nat) (hN : nth? Hs i = some N) : Rd [] w v n k cs := by
  rw [nth?_eq] at hN
  exact h.rd hH (List.mem_of_getElem? hN) [] (by simp)

/-- a slice of one's own is apart from what a callee is handed -/
theorem Own.rdM {M w0 w E k v n cs N} {Ns1 rest : List Hl} (h : Own E k v n cs N) (hH : HS M w0 w (Ns1 ++ rest)) (i : Nat) (hN : nth? rest i = some N) : Rd (doms Ns1) w v n k cs := by
  rw [nth?_eq] at hN
  have hN := List.mem_of_getElem? hN
  refine h.rd hH (List.mem_append_right _ hN) _ fun p hp hm => ?_
  obtain ⟨N1, hN1, q, hq, he⟩ := mem_doms.1 hm
  exact (List.pairwise_append.1 hH.ap).2.2 N1 hN1 N hN q hq p hp he

/-! ### numbers -/
def B8 (x : BitVec 8) : Value := .int .u8 x.toNat
def U32 (x : BitVec 32) : Value := .int .u32 x.toNat
def U64 (x : BitVec 64) : Value := .int .u64 x.toNat
abbrev I (n : Int) : Value := .int .i64 n

/-- bytes -/
abbrev By (M : List Nat) (w : World) (v : Value) (l : List (BitVec 8)) : Prop := Rd M w v l.length 1 (l.map B8)
end Go.Proofs.YtipjpbfledddaaaDoor
