/- append, copy, slicing, make, strings turned to bytes; calls. -/
import Derived.Test.YtipjpbfledddaaaDoorLd
import Derived.Lib.AppendStr
import Derived.Lib.ConvBytes
namespace Go.Proofs.YtipjpbfledddaaaDoor
open Go
set_option linter.unusedVariables false
set_option linter.unusedSimpArgs false

/-- what append and copy read -/
structure Src (P : Program) (w : World) (x : Value) (k m : Nat) (news : List Value) : Prop where
  len : news.length = m * k
  lenOf : ∀ w, (Builtin.lenOf x).run P w = .ok m w
  cells : (Builtin.firstCells k m x).run P w = .ok news.toArray w
  cells' : (Builtin.firstCells k m x).run P w.drew = .ok news.toArray w.drew

theorem Rd.firstCells {P w v n k cs} (h : Rd [] w v n k cs) (m : Nat) (hm : m ≤ n) : (Builtin.firstCells k m v).run P w = .ok (cs.take (m * k)).toArray w := by
  have hl := h.len
  have hmk : m * k ≤ n * k := Nat.mul_le_mul_right k hm
  have hat := fun j => h.at (j := j)
  obtain ⟨h1, a, cap, rfl, h3, h4, h5⟩ := h
  cases a with
  | none =>
    obtain rfl := (h4 rfl).1
    simp [Builtin.firstCells, show m = 0 by omega]
  | some ad =>
    refine run_firstCells_some w k m ad n cap _ (by simp; omega) fun j u hu => ?_
    rw [List.getElem?_take] at hu
    split at hu
    · rename_i hj
      have hn0 : 0 < n := Nat.pos_of_ne_zero fun h => by subst h; omega
      obtain ⟨h6, _⟩ := h5 ad rfl (by omega)
      obtain ⟨b, o, s⟩ := ad
      simp only at h6
      subst h6
      have := hat j (by omega)
      rw [hu] at this
      rw [← this, add_off]
      rfl
    · cases hu

theorem Rd.src {P w v n k cs} (h : Rd [] w v n k cs) : Src P w v k n cs := by
  have hl := h.len
  have e : cs.take (n * k) = cs := List.take_of_length_le (by omega)
  refine ⟨hl, fun w => ?_, ?_, ?_⟩
  · obtain ⟨h1, a, cap, rfl, _⟩ := h
    simp [Builtin.lenOf]
  · rw [h.firstCells n (Nat.le_refl _), e]
  · rw [Rd.firstCells (w := w.drew) (h.heap fun _ _ _ => rfl) n (Nat.le_refl _), e]

/-- a string's bytes -/
def sBytes (s : ByteArray) : List (BitVec 8) := s.data.toList.map UInt8.toBitVec
theorem sBytes_length (s : ByteArray) : (sBytes s).length = s.size := by simp [sBytes]
theorem sBytes_cells (s : ByteArray) : (sBytes s).map B8 = Lib.strCells s := by
  simp [sBytes, Lib.strCells]
  intro a ha
  simp [B8]

theorem src_string {P} {w : World} (s : ByteArray) : Src P w (.string s) 1 s.size ((sBytes s).map B8) := by
  refine ⟨by simp [sBytes_length], fun w => by simp [Builtin.lenOf], ?_, ?_⟩
  · rw [sBytes_cells]; exact Lib.run_firstCells_string w 1 s
  · rw [sBytes_cells]; exact Lib.run_firstCells_string w.drew 1 s

theorem one_mk {l : List Value} (h : ∀ u ∈ l, u.oneCell' = true) : ∀ u ∈ l, u.oneCell' = true := h
theorem one_B8 (l : List (BitVec 8)) : ∀ u ∈ l.map B8, u.oneCell' = true := by
  intro u hu; obtain ⟨x, _, rfl⟩ := List.mem_map.1 hu; rfl
theorem one_U32 (l : List (BitVec 32)) : ∀ u ∈ l.map U32, u.oneCell' = true := by
  intro u hu; obtain ⟨x, _, rfl⟩ := List.mem_map.1 hu; rfl

theorem zeroCells_size (z : Array Value) (n : Nat) : (Builtin.zeroCells z n).size = n * z.size := by simp [Builtin.zeroCells]

section
variable {P : Program} {E : Env} {ty t t' : TypeId} {w : World} {x y : Operand} {M : List Nat} {w0 : World} {Hs : List Hl}

theorem Own.fresh {e k n : Nat} {cs sp : List Value} {w : World} (hl : cs.length = n * k) {cap : Nat} (hc : n ≤ cap) (hsp : (cap - n) * k ≤ sp.length) :
    Own e k (.slice (some ⟨w.heap.size, 0, none⟩) n cap) n cs [(w.heap.size, .cells (cs ++ sp).toArray e (0, 0))] :=
  ⟨hl, .inr ⟨w.heap.size, 0, cap, [], sp, (0, 0), rfl, by simp, rfl, hc, hsp, soft0 _⟩⟩

theorem run_append {e k bb : Nat} {z : Value} {v : Value} {n : Nat} {cs : List Value} {N : Hl} {xv : Value} {m : Nat} {news : List Value} {d : TypeDesc}
    (ht : P.underlying t = some (.slice e)) (ht' : P.underlying t' = some d) (hd : d = .slice e ∨ d = .string)
    (he : TI P e k bb z) (hz : z.cells.size = k)
    (hown : Own e k v n cs N) (hN : HS (doms [N]) w w [N]) (hs : Src P w xv k m news) (h1 : ∀ u ∈ news, u.oneCell' = true)
    (hb : (n + m) * bb ≤ 140737488355328) (hn : n + m ≤ 9223372036854775807) :
    ∃ v' w' N', (Builtin.append_ #[t, t'] ty #[v, xv]).run P w = .ok v' w' ∧ Own e k v' (n + m) (cs ++ news) N' ∧ HS (doms [N]) w w' [N'] ∧
      (v' = .slice none 0 0 ↔ v = .slice none 0 0 ∧ m = 0) := by
  have hlen : (cs ++ news).length = (n + m) * k := by rw [List.length_append, hown.1, hs.len, Nat.add_mul]
  obtain ⟨i, hi, hik, hib, hiz⟩ := he
  -- a new array
  have grow : ∀ cap, cap < n + m → (∃ a, v = .slice a n cap) → (Builtin.firstCells k n v).run P w.drew = .ok cs.toArray w.drew → v ≠ .slice none 0 0 ∨ m ≠ 0 →
      ∃ v' w' N', (Builtin.append_ #[t, t'] ty #[v, xv]).run P w = .ok v' w' ∧ Own e k v' (n + m) (cs ++ news) N' ∧ HS (doms [N]) w w' [N'] ∧
        (v' = .slice none 0 0 ↔ v = .slice none 0 0 ∧ m = 0) := by
    intro cap hcap ⟨a, hv⟩ hold hne
    have hfit := growslice_fits (bytes := bb) hcap hb
    subst hv
    have hge : n + m ≤ grownCap w (n + m) cap e := grownCap_ge w (n + m) cap e
    refine ⟨.slice (some ⟨w.heap.size, 0, none⟩) (n + m) (grownCap w (n + m) cap e),
      w.drew.alloc (.cells ((cs ++ news) ++ (Builtin.zeroCells z.cells (grownCap w (n + m) cap e - (n + m))).toList).toArray e),
      [(w.heap.size, .cells ((cs ++ news) ++ (Builtin.zeroCells z.cells (grownCap w (n + m) cap e - (n + m))).toList).toArray e (0, 0))], ?_, ?_, ?_, ?_⟩
    · have hc' := hs.cells'
      have e1 : ¬ n + m ≤ cap := by omega
      have e2 : ¬ 281474976710656 < Builtin.nextslicecap (n + m) cap * bb := by omega
      have e3 : ¬ (9223372036854775807 : Int) < (n : Int) + m := by omega
      rcases hd with rfl | rfl
      all_goals simp [Builtin.append_, run_underlying ht, run_underlying ht', sizeOf, typeInfo, zeroValue, hi, hik, hib, hiz, hs.lenOf, e1, e2, e3, hold, hc', newRow, Question.forced, grownCap, IntKind.max, IntKind.bits, IntKind.signed]
      all_goals (congr 2; apply Array.ext'; simp)
    · exact Own.fresh (w := w) hlen hge (by simp [zeroCells_size, hz])
    · have := (HS.alloc (HS.drew hN) (.cells ((cs ++ news) ++ (Builtin.zeroCells z.cells (grownCap w (n + m) cap e - (n + m))).toList).toArray e)).pick [0] rfl
      exact this
    · constructor
      · intro h; cases h
      · rintro ⟨h, hm⟩
        cases h
        rcases hne with h | h
        · exact absurd rfl h
        · exact absurd hm h
  rcases hown.2 with ⟨rfl, rfl, rfl⟩ | ⟨b, off, cap, pre, sp, fr, rfl, rfl, hoff, hcap, hsp, hfr⟩
  · have hcs : cs = [] := List.eq_nil_of_length_eq_zero (by simpa using hown.1)
    subst hcs
    by_cases hm : m = 0
    · subst hm
      have hnn : news = [] := List.eq_nil_of_length_eq_zero (by simpa using hs.len)
      subst hnn
      refine ⟨.slice none 0 0, w, [], ?_, ⟨by simp, .inl ⟨rfl, rfl, rfl⟩⟩, ?_, by simp⟩
      · have hc' := hs.cells
        rcases hd with rfl | rfl
        all_goals simp [Builtin.append_, run_underlying ht, run_underlying ht', sizeOf, typeInfo, hi, hik, hs.lenOf, hc']
      · exact hN
    · exact grow 0 (by omega) ⟨none, rfl⟩ (by simp [Builtin.firstCells]) (.inr hm)
  · by_cases hroom : n + m ≤ cap
    · have hb : w.heap[b]? = some (.cells (pre ++ cs ++ sp).toArray e fr) := hN.has [(b, .cells (pre ++ cs ++ sp).toArray e fr)] List.mem_cons_self (b, _) (List.mem_singleton.2 rfl)
      have hl1 := hown.1
      have hnk : (n + m) * k = n * k + m * k := Nat.add_mul _ _ _
      have hmk : m * k ≤ (cap - n) * k := Nat.mul_le_mul_right k (by omega)
      have hsl := hs.len
      have hfit : off + n * k + 0 + news.length ≤ (pre ++ cs ++ sp).length := by simp; omega
      obtain ⟨w', e1, e2, e3, e4, e5, e6, e7⟩ := run_storeCells_own (P := P) b e fr news (pre ++ cs ++ sp) (off + n * k) 0 w hb hfit hfr h1
      have e8 : putAt (pre ++ cs ++ sp) (off + n * k + 0) news = pre ++ (cs ++ news) ++ sp.drop (m * k) := by
        rw [putAt_eq _ _ _ hfit]
        have hpc : (pre ++ cs).length = off + n * k := by simp; omega
        have t1 : (pre ++ cs ++ sp).take (off + n * k + 0) = pre ++ cs := by
          rw [Nat.add_zero, ← hpc, List.take_left]
        have t2 : (pre ++ cs ++ sp).drop (off + n * k + 0 + news.length) = sp.drop (m * k) := by
          rw [List.drop_append, hpc, List.drop_eq_nil_of_le (by omega)]
          simp [hsl]
        rw [t1, t2]
        simp
      rw [e8] at e2
      refine ⟨.slice (some ⟨b, off, none⟩) (n + m) cap, w', [(b, .cells (pre ++ (cs ++ news) ++ sp.drop (m * k)).toArray e fr)], ?_, ?_, ?_, by simp⟩
      · have hc' := hs.cells
        rcases hd with rfl | rfl
        all_goals simp [Builtin.append_, run_underlying ht, run_underlying ht', sizeOf, typeInfo, hi, hik, hs.lenOf, hc', hroom, add_off, e1]
      · refine ⟨hlen, .inr ⟨b, off, cap, pre, sp.drop (m * k), fr, rfl, rfl, hoff, hroom, ?_, ?_⟩⟩
        · have : (cap - n) * k = (cap - (n + m)) * k + m * k := by rw [← Nat.add_mul]; congr 1; omega
          simp; omega
        · have : (pre ++ (cs ++ news) ++ sp.drop (m * k)).length = (pre ++ cs ++ sp).length := by simp; omega
          rw [this]; exact hfr
      · have := HS.turn (M := doms [[(b, Obj.cells (pre ++ cs ++ sp).toArray e fr)]]) (w0 := w) (N' := [(b, Obj.cells (pre ++ (cs ++ news) ++ sp.drop (m * k)).toArray e fr)]) hN e5 e6 e7 e4 (fun b' hb' => e3 b' fun e => hb' (b, _) (List.mem_singleton.2 rfl) e.symm) rfl (fun p hp => by
          obtain rfl := List.mem_singleton.1 hp
          exact e2)
        exact this
    · refine grow cap (by omega) ⟨_, rfl⟩ ?_ (.inl (by simp))
      have hr := hown.rd (HS.drew hN) List.mem_cons_self [] (by simp)
      have := hr.firstCells (P := P) n (Nat.le_refl _)
      rw [this, List.take_of_length_le (by have := hown.1; omega)]

/-- append to a slice of one's own, whose memory stands in front -/
theorem lo_append {e k bb : Nat} {z : Value} {v : Value} {n : Nat} {cs : List Value} {N : Hl} {rest : List Hl} {xv : Value} {m : Nat} {news : List Value} {d : TypeDesc}
    (hH : HS M w0 w (N :: rest)) (ht : P.underlying t = some (.slice e)) (ht' : P.underlying t' = some d) (hd : d = .slice e ∨ d = .string)
    (he : TI P e k bb z) (hz : z.cells.size = k) (hx : E.ev x = some v) (hy : E.ev y = some xv)
    (hown : Own e k v n cs N) (hs : Src P w xv k m news) (h1 : ∀ u ∈ news, u.oneCell' = true)
    (hb : (n + m) * bb ≤ 140737488355328) (hn : n + m ≤ 9223372036854775807) :
    Lo P E (.call ⟨.builtin .append, #[x, y], #[t, t']⟩) ty w (fun v' w' => ∃ N', Own e k v' (n + m) (cs ++ news) N' ∧ HS M w0 w' (N' :: rest)) := by
  intro a dst pos af g K Q ha hK
  obtain ⟨v', w', N', e1, e2, e3, _⟩ := run_append (ty := ty) ht ht' hd he hz hown (HS.handed (Ns1 := [N]) hH) hs h1 hb hn
  simp only [Oper.wp, execOp, resolve, invoke, builtin, Sem.run_bind, Sem.run_pure, Result.andThen_ok, List.map_toArray, List.map_cons, List.map_nil, ha _ _ hx, ha _ _ hy, e1]
  exact hK v' w' ⟨N', e2, HS.call (Ns1 := [N]) (Ns2 := [N']) hH e3⟩

/-! ### slicing -/
theorem Rd.cut {w v n k cs} (h : Rd M w v n k cs) (lo hi : Nat) (h1 : lo ≤ hi) (h2 : hi ≤ n) :
    ∃ v', (∀ a c, v = .slice a n c → v' = .slice (if c = lo then a else a.map (·.add (lo * k))) (hi - lo) (c - lo)) ∧ Rd M w v' (hi - lo) k ((cs.drop (lo * k)).take ((hi - lo) * k)) := by
  obtain ⟨e1, a, cap, rfl, e3, e4, e5⟩ := h
  have hk1 : lo * k ≤ hi * k := Nat.mul_le_mul_right k h1
  have hk2 : hi * k ≤ n * k := Nat.mul_le_mul_right k h2
  have hk3 : (hi - lo) * k = hi * k - lo * k := Nat.sub_mul _ _ _
  refine ⟨.slice (if cap = lo then a else a.map (·.add (lo * k))) (hi - lo) (cap - lo), fun a' c' he => by cases he; rfl, ?_, _, _, rfl, by omega, ?_, ?_⟩
  · simp; omega
  · intro ha
    split at ha
    · have := e4 ha; omega
    · have := e4 (by simpa using ha); omega
  · intro ad had hc0
    cases a with
    | none => split at had <;> cases had
    | some a0 =>
      obtain ⟨f1, f2, arr, E0, fr, f3, f4, f5⟩ := e5 a0 rfl (by omega)
      obtain ⟨b, o, s⟩ := a0
      simp only at f1 f2 f3 f4 f5
      subst f1
      have hcap : lo * k ≤ cap * k := Nat.mul_le_mul_right k (by omega)
      have hcs : (cap - lo) * k = cap * k - lo * k := Nat.sub_mul _ _ _
      by_cases hc : cap = lo
      · rw [if_pos hc] at had
        cases had
        refine ⟨rfl, f2, arr, E0, fr, f3, by simp only; omega, fun i hi' => ?_⟩
        rw [show hi - lo = 0 by omega] at hi'
        omega
      · rw [if_neg hc] at had
        simp only [Option.map_some, Option.some.injEq, add_off] at had
        subst had
        refine ⟨rfl, f2, arr, E0, fr, f3, by simp only; omega, fun i hi' => ?_⟩
        simp only [List.getElem?_take, List.getElem?_drop, hi', if_true]
        rw [Nat.add_assoc]
        exact f5 _ (by omega)

/-- a bound of a slice expression: none, or a number at hand -/
def bnd (E : Env) : Option Operand → Nat → Option Int
  | none, d => some d
  | some x, _ => match E.ev x with
    | some (.int _ n) => some n
    | _ => none

theorem bnd_run {ρ : Operand → Value} (hρ : ∀ x u, E.ev x = some u → ρ x = u) {o : Option Operand} {d n : Nat} {m : Int} (h : bnd E o d = some m) (hn : m = n) {cap : Nat} (hc : n ≤ cap) (code : BoundsCode) (w : World) :
    (match o.map ρ with | some v => Instr.sliceBound v cap code | none => pure d : Sem Nat).run P w = .ok n w := by
  cases o with
  | none =>
    obtain rfl : d = n := by simp [bnd] at h; omega
    rfl
  | some x =>
    simp only [bnd] at h
    split at h
    · rename_i kk n' hx
      cases h
      simp only [Option.map_some, hρ _ _ hx, Instr.sliceBound, asIntOf]
      simp [hn, hc]
    · cases h

theorem run_sliceBounds {ρ : Operand → Value} (hρ : ∀ x u, E.ev x = some u → ρ x = u) {isSlice : Bool} {lo hi : Option Operand} {len cap l h : Nat} {ml mh : Int}
    (hl : bnd E lo 0 = some ml) (hh : bnd E hi len = some mh) (el : ml = l) (eh : mh = h) (h1 : l ≤ h) (h2 : h ≤ cap) (w : World) :
    (Instr.sliceBounds isSlice len cap (lo.map ρ) (hi.map ρ) none).run P w = .ok (l, h, cap) w := by
  have a1 := fun code => bnd_run (P := P) hρ hl el h1 code w
  have a2 := fun code => bnd_run (P := P) hρ hh eh h2 code w
  cases lo with
  | none =>
    cases hi with
    | none =>
      have b1 := a1 .index
      have b2 := a2 .index
      simp at b1 b2
      simp [Instr.sliceBounds, b1, b2]
    | some y =>
      have b1 := a1 .index
      have b2 := a2 (if isSlice then .sliceAcap else .sliceAlen)
      simp at b1 b2
      simp [Instr.sliceBounds, b1, b2]
  | some x =>
    cases hi with
    | none =>
      have b1 := a1 .sliceB
      have b2 := a2 .index
      simp at b1 b2
      simp [Instr.sliceBounds, b1, b2]
    | some y =>
      have b1 := a1 .sliceB
      have b2 := a2 (if isSlice then .sliceAcap else .sliceAlen)
      simp at b1 b2
      simp [Instr.sliceBounds, b1, b2]

/-- x[lo:hi] of a slice that is read -/
theorem q_slice {e k bb : Nat} {z : Value} {v : Value} {n : Nat} {lo hi : Option Operand} {ml mh : Int} (hT : P.underlying t = some (.slice e)) (he : TI P e k bb z) (hx : E.ev x = some v)
    {v' : Value} (l h : Nat) (hv' : ∀ a c, v = .slice a n c → v' = .slice (if c = l then a else a.map (·.add (l * k))) (h - l) (c - l)) (hr : Shp v n)
    (hl : bnd E lo 0 = some ml) (hh : bnd E hi n = some mh) (el : ml = l) (eh : mh = h) (h1 : l ≤ h) (h2 : h ≤ n) :
    Runs P E (.slice t x lo hi none) ty w v' := by
  intro ρ dst pos af g hρ
  obtain ⟨a, cap, rfl, e3, _⟩ := hr
  rw [hv' a cap rfl]
  have := run_sliceBounds (P := P) (isSlice := true) (cap := cap) hρ hl hh el eh h1 (by omega) w
  simp [execOp, hρ _ _ hx, Instr.sliceAt, Instr.slice, run_underlying hT, this, he.size]

/-- b[lo:hi] of an array's address -/
theorem q_sliceA {e k bb len : Nat} {z : Value} {b o : Nat} {lo hi : Option Operand} {ml mh : Int} (hT : P.underlying t = some (.array len e)) (he : TI P e k bb z) (hx : E.ev x = some (.pointer (some ⟨b, o, none⟩)))
    (l h : Nat) (hl : bnd E lo 0 = some ml) (hh : bnd E hi len = some mh) (el : ml = l) (eh : mh = h) (h1 : l ≤ h) (h2 : h ≤ len) :
    Runs P E (.slice t x lo hi none) ty w (.slice (some (if len = l then ⟨b, o, none⟩ else ⟨b, o + l * k, none⟩)) (h - l) (len - l)) := by
  intro ρ dst pos af g hρ
  have := run_sliceBounds (P := P) (isSlice := false) (cap := len) hρ hl hh el eh h1 (by omega) w
  simp only [execOp, hρ _ _ hx, Instr.sliceAt]
  simp [run_underlying hT, Instr.sureAddr, this, he.size, add_off]
end
end Go.Proofs.YtipjpbfledddaaaDoor
