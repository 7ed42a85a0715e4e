/- Slices of one's own whose elements are alike; pieces of them; whole arrays. -/
import Derived.Test.YtipjpbfledddaaaDoorLg
namespace Go.Proofs.YtipjpbfledddaaaDoor
open Go
set_option linter.unusedVariables false
set_option linter.unusedSimpArgs false

theorem flat_replicate {α : Type} (n : Nat) (x : α) : (List.replicate n [x]).flatten = List.replicate n x := by
  induction n with
  | zero => rfl
  | succ n ih => simp [List.replicate_succ, ih]
theorem take_snoc {α : Type} (l : List α) {i : Nat} {d : α} (h : i < l.length) : l.take (i + 1) = l.take i ++ [l.getD i d] := by
  rw [List.take_succ_eq_append_getElem h]
  simp [List.getD, h]

theorem cells_B8 (x : BitVec 8) : (B8 x).cells = #[B8 x] := rfl
theorem cells_U32 (x : BitVec 32) : (U32 x).cells = #[U32 x] := rfl
theorem cells_U64 (x : BitVec 64) : (U64 x).cells = #[U64 x] := rfl
/-- a slice of one's own, its elements one cell each -/
abbrev Ow {α : Type} (f : α → Value) (E : Nat) (v : Value) (l : List α) (N : Hl) : Prop := Own E 1 v l.length (l.map f) N
/-- a slice that is read, its elements one cell each -/
abbrev Rm {α : Type} (f : α → Value) (M : List Nat) (w : World) (v : Value) (l : List α) : Prop := Rd M w v l.length 1 (l.map f)

section
variable {P : Program} {E : Env} {ty t t' : TypeId} {w : World} {x y : Operand} {M : List Nat} {w0 : World} {Hs : List Hl}

theorem Own.nil (E k : Nat) : Own E k (.slice none 0 0) 0 [] [] := ⟨by simp, .inl ⟨rfl, rfl, rfl⟩⟩
theorem Ow.nil {α : Type} (f : α → Value) (E : Nat) : Ow f E (.slice none 0 0) [] [] := Own.nil E 1

/-- a slice that nobody has made yet is of one's own, with no memory -/
theorem HS.nilFront (h : HS M w0 w Hs) : HS M w0 w ([] :: Hs) :=
  ⟨h.os, h.tape, h.output, h.size, h.old, fun N hN p hp => by
      rcases List.mem_cons.1 hN with rfl | hN
      · cases hp
      · exact h.has N hN p hp, fun N hN => by
      rcases List.mem_cons.1 hN with rfl | hN
      · simp
      · exact h.nd N hN, List.pairwise_cons.2 ⟨(fun N _ p hp => by cases hp), h.ap⟩, fun N hN p hp => by
      rcases List.mem_cons.1 hN with rfl | hN
      · cases hp
      · exact h.dom N hN p hp⟩

/-- heaplets put together, and taken apart again -/
theorem HS.fold {M : List Nat} {w0 w : World} (A R : List Hl) (h : HS M w0 w (A ++ R)) : ∃ NR : Hl, NR = R.flatten ∧ HS M w0 w (A ++ [NR]) := by
  refine ⟨_, rfl, h.os, h.tape, h.output, h.size, h.old, fun N hN p hp => ?_, fun N hN => ?_, ?_, fun N hN p hp => ?_⟩
  · rcases List.mem_append.1 hN with hN | hN
    · exact h.has N (List.mem_append_left _ hN) p hp
    · obtain rfl := List.mem_singleton.1 hN
      obtain ⟨N', hN', hp⟩ := List.mem_flatten.1 hp
      exact h.has N' (List.mem_append_right _ hN') p hp
  · rcases List.mem_append.1 hN with hN | hN
    · exact h.nd N (List.mem_append_left _ hN)
    · obtain rfl := List.mem_singleton.1 hN
      rw [List.map_flatten, List.Nodup, List.pairwise_flatten]
      refine ⟨fun l hl => ?_, ?_⟩
      · obtain ⟨N', hN', rfl⟩ := List.mem_map.1 hl
        exact h.nd N' (List.mem_append_right _ hN')
      · rw [List.pairwise_map]
        refine (List.pairwise_append.1 h.ap).2.1.imp fun {N N'} hap => ?_
        intro b hb b' hb' he
        obtain ⟨p, hp, rfl⟩ := List.mem_map.1 hb
        obtain ⟨q, hq, rfl⟩ := List.mem_map.1 hb'
        exact hap p hp q hq he
  · have ha := List.pairwise_append.1 h.ap
    refine List.pairwise_append.2 ⟨ha.1, by simp, fun N hN N' hN' => ?_⟩
    obtain rfl := List.mem_singleton.1 hN'
    intro p hp q hq
    obtain ⟨N', hN', hq⟩ := List.mem_flatten.1 hq
    exact ha.2.2 N hN N' hN' p hp q hq
  · rcases List.mem_append.1 hN with hN | hN
    · exact h.dom N (List.mem_append_left _ hN) p hp
    · obtain rfl := List.mem_singleton.1 hN
      obtain ⟨N', hN', hp⟩ := List.mem_flatten.1 hp
      exact h.dom N' (List.mem_append_right _ hN') p hp
theorem HS.unfold {M : List Nat} {w0 w : World} (A : List Hl) {R : List Hl} {NR : Hl} (he : NR = R.flatten) (h : HS M w0 w (A ++ [NR])) : HS M w0 w (A ++ R) := by
  subst he
  have hnd := h.nd R.flatten (by simp)
  rw [List.map_flatten, List.Nodup, List.pairwise_flatten, List.pairwise_map] at hnd
  have ha := List.pairwise_append.1 h.ap
  refine ⟨h.os, h.tape, h.output, h.size, h.old, fun N hN p hp => ?_, fun N hN => ?_, ?_, fun N hN p hp => ?_⟩
  · rcases List.mem_append.1 hN with hN | hN
    · exact h.has N (List.mem_append_left _ hN) p hp
    · exact h.has _ (List.mem_append_right _ (List.mem_singleton.2 rfl)) p (List.mem_flatten.2 ⟨N, hN, hp⟩)
  · rcases List.mem_append.1 hN with hN | hN
    · exact h.nd N (List.mem_append_left _ hN)
    · exact hnd.1 _ (List.mem_map.2 ⟨N, hN, rfl⟩)
  · refine List.pairwise_append.2 ⟨ha.1, hnd.2.imp fun {N N'} hd => fun p hp q hq he => ?_, fun N hN N' hN' p hp q hq => ?_⟩
    · exact hd _ (List.mem_map_of_mem (f := (·.1)) hp) _ (List.mem_map_of_mem (f := (·.1)) hq) he
    · exact ha.2.2 N hN _ (List.mem_singleton.2 rfl) p hp q (List.mem_flatten.2 ⟨N', hN', hq⟩)
  · rcases List.mem_append.1 hN with hN | hN
    · exact h.dom N (List.mem_append_left _ hN) p hp
    · exact h.dom _ (List.mem_append_right _ (List.mem_singleton.2 rfl)) p (List.mem_flatten.2 ⟨N, hN, hp⟩)

theorem Own.cut {e k n : Nat} {v : Value} {cs : List Value} {N : Hl} (h : Own e k v n cs N) (lo hi : Nat) (h1 : lo ≤ hi) (h2 : hi ≤ n) :
    ∃ v', (∀ a c, v = .slice a n c → v' = .slice (if c = lo then a else a.map (·.add (lo * k))) (hi - lo) (c - lo)) ∧ Own e k v' (hi - lo) ((cs.drop (lo * k)).take ((hi - lo) * k)) N := by
  obtain ⟨e1, e2⟩ := h
  have hk1 : lo * k ≤ hi * k := Nat.mul_le_mul_right k h1
  have hk2 : hi * k ≤ n * k := Nat.mul_le_mul_right k h2
  have hk3 : (hi - lo) * k = hi * k - lo * k := Nat.sub_mul _ _ _
  rcases e2 with ⟨rfl, rfl, rfl⟩ | ⟨b, off, cap, pre, sp, fr, rfl, rfl, hoff, hcap, hsp, hfr⟩
  · obtain rfl : hi = 0 := by omega
    obtain rfl : lo = 0 := by omega
    have : cs = [] := List.eq_nil_of_length_eq_zero (by simpa using e1)
    subst this
    exact ⟨.slice none 0 0, (fun a c he => by cases he; simp), by simp, .inl ⟨rfl, rfl, rfl⟩⟩
  · refine ⟨.slice (if cap = lo then some ⟨b, off, none⟩ else some ⟨b, off + lo * k, none⟩) (hi - lo) (cap - lo), fun a c he => ?_, ?_, ?_⟩
    · cases he
      simp [add_off]
    · simp; omega
    · have hsplit : pre ++ cs ++ sp = (pre ++ cs.take (lo * k)) ++ ((cs.drop (lo * k)).take ((hi - lo) * k)) ++ (cs.drop (hi * k) ++ sp) := by
        have a1 : cs = cs.take (lo * k) ++ ((cs.drop (lo * k)).take ((hi - lo) * k) ++ cs.drop (hi * k)) := by
          have a2 : cs.drop (hi * k) = (cs.drop (lo * k)).drop ((hi - lo) * k) := by rw [List.drop_drop]; congr 1; omega
          rw [a2, List.take_append_drop, List.take_append_drop]
        conv => lhs; rw [a1]
        simp only [List.append_assoc]
      by_cases hc : cap = lo
      · obtain rfl : hi = lo := by omega
        have hz : ((cs.drop (hi * k)).take ((hi - hi) * k)) = [] := by simp
        refine .inr ⟨b, off, cap - hi, pre, cs ++ sp, fr, by rw [if_pos hc], ?_, hoff, by omega, ?_, ?_⟩
        · rw [hz]; simp
        · rw [hc]; simp
        · rw [hz]; simpa using hfr
      · refine .inr ⟨b, off + lo * k, cap - lo, pre ++ cs.take (lo * k), cs.drop (hi * k) ++ sp, fr, by rw [if_neg hc], ?_, ?_, by omega, ?_, ?_⟩
        · rw [← hsplit]
        · simp; omega
        · have : (cap - lo - (hi - lo)) * k = cap * k - hi * k := by rw [show cap - lo - (hi - lo) = cap - hi by omega, Nat.sub_mul]
          have h5 : (cap - n) * k = cap * k - n * k := Nat.sub_mul _ _ _
          have h6 : n * k ≤ cap * k := Nat.mul_le_mul_right k hcap
          simp; omega
        · rw [← hsplit]; exact hfr

theorem Own.shape {e k n : Nat} {v : Value} {cs : List Value} {N : Hl} (h : Own e k v n cs N) : ∃ a c, v = .slice a n c ∧ n ≤ c := by
  rcases h.2 with ⟨rfl, rfl, rfl⟩ | ⟨b, off, cap, pre, sp, fr, rfl, rfl, hoff, hcap, hsp, hfr⟩
  · exact ⟨_, _, rfl, Nat.le_refl _⟩
  · exact ⟨_, _, rfl, hcap⟩

theorem Own.one {e k n : Nat} {v : Value} {cs : List Value} {N : Hl} (h : Own e k v n cs N) : v.oneCell' = true := by
  obtain ⟨a, c, rfl, _⟩ := h.shape; rfl
/-- b[:] of an array's address -/
theorem q_sliceAll {e k bb len : Nat} {z : Value} {b : Nat} (hT : P.underlying t = some (.array len e)) (he : TI P e k bb z) (hx : E.ev x = some (.pointer (some ⟨b, 0, none⟩))) :
    Runs P E (.slice t x none none none) ty w (.slice (some ⟨b, 0, none⟩) len len) := by
  have := q_sliceA (P := P) (E := E) (ty := ty) (w := w) (lo := none) (hi := none) hT he hx 0 len rfl rfl rfl rfl (by omega) (by omega)
  simpa using this

/-- an array of one's own, read as a slice -/
theorem HS.rdB {b T n k : Nat} {fr : Nat × Nat} {c : List Value} (hH : HS M w0 w Hs) (i : Nat) (hi : nth? Hs i = some [(b, Obj.cells c.toArray T fr)]) (hl : c.length = n * k) : Rd [] w (.slice (some ⟨b, 0, none⟩) n n) n k c := by
  refine ⟨hl, _, n, rfl, Nat.le_refl _, (fun h => by cases h), fun ad had _ => ?_⟩
  cases had
  exact ⟨rfl, by simp, _, T, fr, hH.at0 hi (List.mem_singleton.2 rfl), by simp [hl], fun i hi => by simp⟩
theorem HS.rdBM {b T n k : Nat} {fr : Nat × Nat} {c : List Value} {Ns1 rest : List Hl} (hH : HS M w0 w (Ns1 ++ rest)) (i : Nat) (hi : nth? rest i = some [(b, Obj.cells c.toArray T fr)]) (hl : c.length = n * k) : Rd (doms Ns1) w (.slice (some ⟨b, 0, none⟩) n n) n k c := by
  rw [nth?_eq] at hi
  have hm := List.mem_of_getElem? hi
  refine ⟨hl, _, n, rfl, Nat.le_refl _, (fun h => by cases h), fun ad had _ => ?_⟩
  cases had
  refine ⟨rfl, fun hb => ?_, _, T, fr, hH.has _ (List.mem_append_right _ hm) (b, _) (List.mem_singleton.2 rfl), by simp [hl], fun i hi => by simp⟩
  obtain ⟨N, hN, p, hp, he⟩ := mem_doms.1 hb
  exact (List.pairwise_append.1 hH.ap).2.2 N hN _ hm p hp (b, _) (List.mem_singleton.2 rfl) he

/-- the whole of a block of one's own, an array or a struct -/
theorem q_loadW {d : TypeDesc} {b T k bb : Nat} {z : Value} {fr : Nat × Nat} {c : List Value} (hH : HS M w0 w Hs) (i : Nat) (hi : nth? Hs i = some [(b, Obj.cells c.toArray T fr)])
    (hT : P.underlying t = some d) (hf : flat d = false) (he : TI P t k bb z) (hx : E.ev x = some (.pointer (some ⟨b, 0, none⟩))) (hk : c.length = k) : Runs P E (.load t x) ty w (.agg c.toArray) :=
  q_loadBA hH i hi (List.mem_singleton.2 rfl) hT hf he hx c (by simp [← hk]) hk

/-- a block holds these cells -/
def Gv (w : World) (g : Nat) (c : List Value) : Prop := ∃ T fr, w.heap[g]? = some (.cells c.toArray T fr)
theorem HS.gv {g : Nat} {c : List Value} (hH : HS M w0 w Hs) (h : Gv w0 g c) (hg : g ∉ M) : Gv w g c := by
  obtain ⟨T, fr, h⟩ := h
  exact ⟨T, fr, by rw [hH.old g (Array.getElem?_eq_some_iff.1 h).1 hg]; exact h⟩
theorem q_loadG {d : TypeDesc} {b k bb : Nat} {z : Value} {c : List Value} (hg : Gv w b c)
    (hT : P.underlying t = some d) (hf : flat d = false) (he : TI P t k bb z) (hx : E.ev x = some (.pointer (some ⟨b, 0, none⟩))) (hk : c.length = k) : Runs P E (.load t x) ty w (.agg c.toArray) := by
  obtain ⟨T, fr, h⟩ := hg
  refine q_loadA hT hf he hx c hk fun j u hu => ?_
  rw [add_off, cell_at h]
  simpa using hu
theorem q_loadGm {α : Type} {f : α → Value} {l : List α} {d : TypeDesc} {b o : Nat} (d0 : α) (hg : Gv w b (l.map f))
    (hT : P.underlying t = some d) (hf : flat d = true) (hx : E.ev x = some (.pointer (some ⟨b, o, none⟩))) (hu : o < l.length) : Runs P E (.load t x) ty w (f (l.getD o d0)) := by
  obtain ⟨T, fr, h⟩ := hg
  refine q_load_cell hT hf hx ?_
  rw [cell_at h]
  simp [hu, List.getD]
theorem q_not32 {p : BitVec 32} (hx : E.ev x = some (U32 p)) : Runs P E (.unOp .xor t x) ty w (U32 (~~~p)) := by
  intro ρ dst pos af g hρ
  have e : (4294967295 : Int) = ((BitVec.allOnes 32).toNat : Int) := by decide
  have e2 : Op.unary .xor (U32 p) = pure (.int .u32 (IntKind.wrap .u32 ((BitVec.ofInt 32 4294967295 ^^^ BitVec.ofInt 32 (p.toNat : Int)).toNat : Int))) := rfl
  have e3 : BitVec.ofInt 32 4294967295 ^^^ BitVec.ofInt 32 (p.toNat : Int) = ~~~p := by
    rw [e, ofInt_toNat, ofInt_toNat, BitVec.allOnes_xor]
  have e4 : IntKind.wrap .u32 ((~~~p).toNat : Int) = ((~~~p).toNat : Int) := by
    rw [wrapU _ rfl]; exact toNat_mod _
  simp only [execOp, hρ _ _ hx, e2, e3, e4]
  rfl

/-- the results of a function that lie in memory -/
theorem resW {d : TypeDesc} {b T k bb : Nat} {z : Value} {fr : Nat × Nat} {c : List Value} (hH : HS M w0 w Hs) (i : Nat) (hi : nth? Hs i = some [(b, Obj.cells c.toArray T fr)])
    (hT : P.underlying t = some d) (hf : flat d = false) (he : TI P t k bb z) (hk : c.length = k) : (loadVar t ⟨b, 0, none⟩).run P w = .ok (.agg c.toArray) w :=
  loadVar_own hH i hi (List.mem_singleton.2 rfl) hT hf he hk

section
variable {α : Type} {f : α → Value}
/-- a literal of elements of one cell each -/
theorem lo_bs {n : Nat} {parts : List (Nat × Operand)} {vs : List (Nat × Value)} {e : Nat} (l : List α) (hH : HS M w0 w Hs) (hp : evs E parts = some vs) (hn : l.length = n)
    (hr : ∀ w, (Instr.buildSlice t n vs.toArray).run P w = .ok (.slice (some ⟨w.heap.size, 0, none⟩) n n) (w.alloc (.cells (l.map f).toArray e))) :
    Lo P E (.buildSlice t n parts.toArray) ty w (fun v w' => ∃ N, Ow f e v l N ∧ HS M w0 w' (N :: Hs)) := by
  subst hn
  exact lo_buildSlice (k := 1) (bb := 0) (z := undef) hH hp (by simp) hr

theorem lo_appm {e bb : Nat} {z : Value} {v : Value} {l l' : List α} {N : Hl} {rest : List Hl} {xv : Value} {d : TypeDesc}
    (hH : HS M w0 w (N :: rest)) (ht : P.underlying t = some (.slice e)) (ht' : P.underlying t' = some d) (hd : d = .slice e ∨ d = .string)
    (he : TI P e 1 bb z) (hz : z.cells.size = 1) (hx : E.ev x = some v) (hy : E.ev y = some xv)
    (hown : Ow f e v l N) (hs : Src P w xv 1 l'.length (l'.map f)) (h1 : ∀ u ∈ l'.map f, u.oneCell' = true)
    (hb : (l.length + l'.length) * bb ≤ 140737488355328) (hn : l.length + l'.length ≤ 9223372036854775807) :
    Lo P E (.call ⟨.builtin .append, #[x, y], #[t, t']⟩) ty w (fun v' w' => ∃ N', Ow f e v' (l ++ l') N' ∧ HS M w0 w' (N' :: rest)) := by
  have := lo_append (ty := ty) hH ht ht' hd he hz hx hy hown hs h1 hb hn
  simpa [Ow] using this

theorem Ow.cut {e : Nat} {v : Value} {l : List α} {N : Hl} (h : Ow f e v l N) (lo hi : Nat) (h1 : lo ≤ hi) (h2 : hi ≤ l.length) :
    ∃ v', (∀ a c, v = .slice a l.length c → v' = .slice (if c = lo then a else a.map (·.add (lo * 1))) (hi - lo) (c - lo)) ∧ Ow f e v' ((l.drop lo).take (hi - lo)) N := by
  obtain ⟨v', hv, ho⟩ := Own.cut h lo hi h1 h2
  refine ⟨v', hv, ?_⟩
  have e1 : ((l.drop lo).take (hi - lo)).length = hi - lo := by simp; omega
  simpa [Ow, e1, List.map_take, List.map_drop] using ho
theorem Rm.cut {v : Value} {l : List α} (h : Rm f M w v l) (lo hi : Nat) (h1 : lo ≤ hi) (h2 : hi ≤ l.length) :
    ∃ v', (∀ a c, v = .slice a l.length c → v' = .slice (if c = lo then a else a.map (·.add (lo * 1))) (hi - lo) (c - lo)) ∧ Rm f M w v' ((l.drop lo).take (hi - lo)) := by
  obtain ⟨v', hv, ho⟩ := Rd.cut h lo hi h1 h2
  refine ⟨v', hv, ?_⟩
  have e1 : ((l.drop lo).take (hi - lo)).length = hi - lo := by simp; omega
  simpa [Rm, e1, List.map_take, List.map_drop] using ho

/-- a store into a slice of one's own -/
theorem lo_storeO {e bb : Nat} {z : Value} {v : Value} {l : List α} {N : Hl} {rest : List Hl} {u : α} {j : Nat} (hH : HS M w0 w (N :: rest)) (hO : Ow f e v l N) (he : TI P t 1 bb z)
    (hx : E.ev x = some (.pointer (some (v.cellAt j)))) (hy : E.ev y = some (f u)) (hj : j < l.length) (h1 : (f u).oneCell' = true) :
    Lo P E (.store t x y) ty w (fun _ w' => ∃ N', Ow f e v (l.set j u) N' ∧ HS M w0 w' (N' :: rest)) := by
  have hlen := hO.len
  rcases hO.2 with ⟨rfl, h0, _⟩ | ⟨b, off, cap, pre, sp, fr, rfl, rfl, hoff, hcap, hsp, hfr⟩
  · omega
  · have hc : (f u).cells = #[f u] := by
      cases h : f u <;> first | rfl | (rw [h] at h1; cases h1)
    have := lo_store (ty := ty) (t := t) (y := y) hH he hx hy (by rw [hc]; rfl) (by simp; omega) hfr (by rw [hc]; simpa using h1)
    refine this.mono fun _ w' hw => ⟨_, ⟨by simp, .inr ⟨b, off, cap, pre, sp, fr, by simp, rfl, hoff, by simpa using hcap, by simpa using hsp, by simpa using hfr⟩⟩, ?_⟩
    rw [hc] at hw
    have e2 : putAt (pre ++ l.map f ++ sp) (off + j) [f u] = pre ++ (l.set j u).map f ++ sp := by
      simp only [putAt, List.append_assoc, List.map_set]
      rw [List.set_append_right _ _ (by omega), List.set_append_left _ _ (by simp; omega)]
      congr 2
      congr 1
      omega
    simp only [Array.toList] at hw
    rw [e2] at hw
    exact hw
end

/-- fill: a literal of an array or a struct, all its parts there -/
theorem q_buildAll {parts : List (Nat × Operand)} {vs : List (Nat × Value)} (hp : evs E parts = some vs)
    (hr : ∀ w, (Instr.build t vs.toArray).run P w = .ok (.agg (vs.flatMap fun p => p.2.cells.toList).toArray) w) : Runs P E (.build t parts.toArray) ty w (.agg (vs.flatMap fun p => p.2.cells.toList).toArray) :=
  q_build hp hr
end
end Go.Proofs.YtipjpbfledddaaaDoor
