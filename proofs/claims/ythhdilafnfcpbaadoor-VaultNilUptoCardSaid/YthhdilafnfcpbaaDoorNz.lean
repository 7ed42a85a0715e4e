/- The texts Nb, Nc, Nd, Ne, Nf, Nh, Ni, Nj of this proof's library, one behind the other. -/
import Derived.Test.YthhdilafnfcpbaaDoorNa
import Derived.Test.YthhdilafnfcpbaaDoorMzb
import Derived.Test.YthhdilafnfcpbaaDoorMzc
/- More arguments' readings: an array of words. -/
namespace Go.Proofs.YthhdilafnfcpbaaDoor
open Go Go.ChangeShapes Go.WideShapes Go.ChangeAt Go.RowKit
section
variable {H : Type} {enc : TypeId × Value → H} {P : Program}
def wordOf : Value → BitVec 32
  | .int _ z => BitVec.ofInt 32 z
  | _ => 0#32
theorem wordOf_cell {z : Int} (h : (Lit.int .u32 z).wf = true) : (Value.int .u32 z) = U32 (wordOf (.int .u32 z)) := by
  simp only [Lit.wf, Bool.and_eq_true, decide_eq_true_eq] at h
  obtain ⟨h1, h2⟩ := h
  have h1 : 0 ≤ z := h1
  have h2 : z ≤ 4294967295 := h2
  obtain ⟨n, rfl⟩ : ∃ n : Nat, z = n := ⟨z.toNat, by omega⟩
  have : n < 4294967296 := by omega
  simp only [U32, wordOf, BitVec.ofInt_natCast, BitVec.toNat_ofNat]
  rw [Nat.mod_eq_of_lt (by simpa using this)]

/-- AN ARGUMENT OF WORDS -/
theorem open_words {t e : TypeId} {n : Nat} {W : World} {base : Nat} {v : Value} {d : DataW H} {ps : List MemPlace} (ht : P.underlying t = some (.array n e)) (he : P.underlying e = some (.int .u32)) (hc : P.cellsOf e = 1) (hct : P.cellsOf t = n)
    (hval : Value.okWide P W .any base t v) (h : DataW.Trod enc P W 0 (fun _ => true) true t v d ps) : ∃ s : List (BitVec 32), s.length = n ∧ v = .agg (s.map U32).toArray := by
  simp only [Value.okWide, ht] at hval
  obtain ⟨cs, rfl, hsz, _⟩ := hval
  obtain ⟨fuel, h⟩ := h
  have hcells : (Value.agg cs).cells.toList = cs.toList := rfl
  rw [hcells] at h
  obtain ⟨xs, m, _, ex, _, hl, hel⟩ := DataW.trod_array ht h
  refine ⟨cs.toList.map wordOf, by simp [hsz, hct], ?_⟩
  congr 1
  apply Array.ext'
  simp only [List.map_map]
  apply List.ext_getElem?
  intro i
  by_cases hi : i < n
  · have hE := hel i hi
    rw [hc, Nat.mul_one, List.getElem?_eq_getElem (by omega)] at hE
    obtain ⟨z, e1, e2, hw⟩ := DataW.trod_int he hE
    have h1 : cs.toList[i]? = some (.int .u32 z) := by
      have h0 : ((cs.toList.drop i).take 1)[0]? = some (.int .u32 z) := by rw [e1]; rfl
      simpa using h0
    rw [List.getElem?_map, h1]
    simp only [Option.map_some, Function.comp]
    exact congrArg some (wordOf_cell hw)
  · rw [List.getElem?_eq_none (by simp [hsz, hct]; omega), List.getElem?_eq_none (by simp [hsz, hct]; omega)]

theorem bulk_part {d : DataW H} {l : List (DataW H)} (h : d ∈ l) : Rows.uptoBulk d ≤ Rows.uptoBulkAll l := by
  induction l with
  | nil => cases h
  | cons x r ih =>
    simp only [Rows.uptoBulkAll]
    cases List.mem_cons.1 h with
    | inl e => subst e; omega
    | inr e => have := ih e; omega

/-- bytes out of a cell that holds a slice -/
theorem rows_bytes {q : TypeId} {t : TypeId} {W : World} {v : Value} {d : DataW H} {ps : List MemPlace} {n : Nat} (ht : P.underlying t = some (.slice q)) (hq : P.underlying q = some (.int .u8)) (hc : P.cellsOf q = 1)
    (h : DataW.trod enc P W 0 (fun _ => true) true n t [v] = some (d, ps)) : ∃ l : Bs, By [] W v l := by
  rcases Deep.open_slice1 ht hc h with ⟨e1, e2⟩ | ⟨ad, len, cap, m, n', V, D, Pl, e1, hb, hl, hm, hmm, e2, hx⟩
  · cases e1
    exact ⟨[], rfl, none, 0, rfl, Nat.le_refl _, fun _ => ⟨rfl, rfl⟩, fun _ h => by cases h⟩
  · cases e1
    simp only [if_true] at hmm
    subst hmm
    have hV : ∀ i, i < m → V i = B8 (byteOf (V i)) := fun i hi => by
      obtain ⟨z, hz, _, hw⟩ := DataW.trod_int hq (hx i hi).2
      have : V i = .int .u8 z := by simpa using hz
      rw [this]
      exact byteOf_cell hw
    refine ⟨(List.range len).map fun i => byteOf (V i), by simp, some ad, m, by simp, by simpa using hl, fun h => (by cases h), fun ad' h' hm0 => ?_⟩
    cases h'
    have h0 := (hx 0 hm0).1
    have hspot : ad.spot = none := by
      have e : ad.add 0 = ad := by simp [Addr.add]
      rw [e] at h0
      unfold World.cell? at h0
      split at h0
      · split at h0
        · cases h0
        · rename_i hs
          cases hq : ad.spot with
          | none => rfl
          | some s => rw [hq] at hs; exact absurd rfl hs
      · cases h0
    have hadd : ∀ i, ad.add i = ⟨ad.block, ad.off + i, none⟩ := fun i => by
      cases ad
      simp only at hspot
      subst hspot
      exact add_plain _ _ _
    obtain ⟨arr, row, fr, harr⟩ : ∃ arr row fr, W.heap[ad.block]? = some (.cells arr row fr) := by
      rw [hadd] at h0
      unfold World.cell? at h0
      split at h0
      · rename_i c el fr hq
        exact ⟨c, el, fr, hq⟩
      · cases h0
    have hcell : ∀ i, i < m → arr[ad.off + i]? = some (V i) := fun i hi => by
      have h1 := (hx i hi).1
      rw [hadd] at h1
      simpa [World.cell?, harr] using h1
    refine ⟨hspot, by simp, arr, row, fr, harr, ?_, fun i hi => ?_⟩
    · have := (Array.getElem?_eq_some_iff.1 (hcell (m - 1) (by omega))).1
      omega
    · have hi' : i < len := by simpa using hi
      rw [hcell i (by omega), hV i (by omega)]
      simp [hi', byteOf, B8]

/-- AN ARGUMENT OF ROWS OF BYTES -/
theorem open_rows {t e q : TypeId} {W : World} {base : Nat} {v : Value} {d : DataW H} {ps : List MemPlace} (ht : P.underlying t = some (.slice e)) (he : P.underlying e = some (.slice q)) (hq : P.underlying q = some (.int .u8)) (hc : P.cellsOf e = 1) (hcq : P.cellsOf q = 1)
    (hval : Value.okWide P W .any base t v) (h : DataW.Trod enc P W 0 (fun _ => true) true t v d ps) :
    ∃ (hs : List Value) (ls : List Bs), Rd [] W v hs.length 1 hs ∧ (∀ i, i < hs.length → By [] W (hs.getD i (.slice none 0 0)) (ls.getD i [])) ∧ hs.length + 1 ≤ Rows.uptoBulk d := by
  obtain ⟨a, len, cap, rfl⟩ := okWide_slice ht hval
  obtain ⟨fuel, h⟩ := h
  have hcells : (Value.slice a len cap).cells.toList = [.slice a len cap] := rfl
  rw [hcells] at h
  rcases Deep.open_slice1 ht hc h with ⟨e1, e2⟩ | ⟨ad, len', cap', m, n, V, D, Pl, e1, hb, hl, hm, hmm, e2, hx⟩
  · cases e1
    cases e2
    exact ⟨[], [], ⟨rfl, none, 0, rfl, Nat.le_refl _, fun _ => ⟨rfl, rfl⟩, fun _ h => by cases h⟩, fun i hi => (by cases hi), by simp [Rows.uptoBulk]⟩
  · cases e1
    cases e2
    simp only [if_true] at hmm
    subst hmm
    have hR : ∀ i, i < m → ∃ l : Bs, By [] W (V i) l := fun i hi => rows_bytes he hq hcq (hx i hi).2
    refine ⟨(List.range len).map V, (List.range len).map fun i => if hi : i < m then Classical.choose (hR i hi) else [], ?_, fun i hi => ?_, ?_⟩
    · refine ⟨by simp, some ad, m, by simp, by simpa using hl, fun h => (by cases h), fun ad' h' hm0 => ?_⟩
      cases h'
      have h0 := (hx 0 hm0).1
      have hspot : ad.spot = none := by
        have e : ad.add 0 = ad := by simp [Addr.add]
        rw [e] at h0
        unfold World.cell? at h0
        split at h0
        · split at h0
          · cases h0
          · rename_i hs
            cases hq : ad.spot with
            | none => rfl
            | some s => rw [hq] at hs; exact absurd rfl hs
        · cases h0
      have hadd : ∀ i, ad.add i = ⟨ad.block, ad.off + i, none⟩ := fun i => by
        cases ad
        simp only at hspot
        subst hspot
        exact add_plain _ _ _
      obtain ⟨arr, row, fr, harr⟩ : ∃ arr row fr, W.heap[ad.block]? = some (.cells arr row fr) := by
        rw [hadd] at h0
        unfold World.cell? at h0
        split at h0
        · rename_i c el fr hq
          exact ⟨c, el, fr, hq⟩
        · cases h0
      have hcell : ∀ i, i < m → arr[ad.off + i]? = some (V i) := fun i hi => by
        have h1 := (hx i hi).1
        rw [hadd] at h1
        simpa [World.cell?, harr] using h1
      refine ⟨hspot, by simp, arr, row, fr, harr, ?_, fun i hi => ?_⟩
      · have := (Array.getElem?_eq_some_iff.1 (hcell (m - 1) (by omega))).1
        omega
      · have hi' : i < len := by simpa using hi
        rw [hcell i (by omega)]
        simp [hi']
    · have hi' : i < len := by simpa using hi
      have him : i < m := by omega
      have := Classical.choose_spec (hR i him)
      simpa [List.getD, hi', him] using this
    · have := bulk_slice (H := H) ((List.range len).map D) ((List.range (m - len)).map fun j => D (len + j))
      simpa using this
end
end Go.Proofs.YthhdilafnfcpbaaDoor
/- More arguments' readings: an array of bytes. -/
namespace Go.Proofs.YthhdilafnfcpbaaDoor
open Go Go.ChangeShapes Go.WideShapes Go.ChangeAt Go.RowKit
section
variable {H : Type} {enc : TypeId × Value → H} {P : Program}
/-- AN ARGUMENT THAT IS AN ARRAY OF BYTES -/
theorem open_array8 {t e : TypeId} {n : Nat} {W : World} {base : Nat} {v : Value} {d : DataW H} {ps : List MemPlace} (ht : P.underlying t = some (.array n e)) (he : P.underlying e = some (.int .u8)) (hc : P.cellsOf e = 1) (hct : P.cellsOf t = n)
    (hval : Value.okWide P W .any base t v) (h : DataW.Trod enc P W 0 (fun _ => true) true t v d ps) : ∃ s : Bs, s.length = n ∧ v = .agg (s.map B8).toArray := by
  simp only [Value.okWide, ht] at hval
  obtain ⟨cs, rfl, hsz, _⟩ := hval
  obtain ⟨fuel, h⟩ := h
  have hcells : (Value.agg cs).cells.toList = cs.toList := rfl
  rw [hcells] at h
  obtain ⟨xs, m, _, ex, _, hl, hel⟩ := DataW.trod_array ht h
  refine ⟨cs.toList.map byteOf, by simp [hsz, hct], ?_⟩
  congr 1
  apply Array.ext'
  simp only [List.map_map]
  apply List.ext_getElem?
  intro i
  by_cases hi : i < n
  · have hE := hel i hi
    rw [hc, Nat.mul_one, List.getElem?_eq_getElem (by omega)] at hE
    obtain ⟨z, e1, e2, hw⟩ := DataW.trod_int he hE
    have h1 : cs.toList[i]? = some (.int .u8 z) := by
      have h0 : ((cs.toList.drop i).take 1)[0]? = some (.int .u8 z) := by rw [e1]; rfl
      simpa using h0
    rw [List.getElem?_map, h1]
    simp only [Option.map_some, Function.comp]
    exact congrArg some (byteOf_cell hw)
  · rw [List.getElem?_eq_none (by simp [hsz, hct]; omega), List.getElem?_eq_none (by simp [hsz, hct]; omega)]
end
end Go.Proofs.YthhdilafnfcpbaaDoor
/- More arguments' readings: digests in a row. -/
namespace Go.Proofs.YthhdilafnfcpbaaDoor
open Go Go.ChangeShapes Go.WideShapes Go.ChangeAt Go.RowKit
section
variable {H : Type} {enc : TypeId × Value → H} {P : Program}
theorem trod_array8 {e q : TypeId} {W : World} {fuel : Nat} {cs : List Value} {x : DataW H × List MemPlace} (he : P.underlying e = some (.array 32 q)) (hq : P.underlying q = some (.int .u8)) (hcq : P.cellsOf q = 1) (hlen : cs.length = 32)
    (h : DataW.trod enc P W 0 (fun _ => true) true fuel e cs = some x) : ∃ s : Bs, s.length = 32 ∧ cs = s.map B8 := by
  obtain ⟨xs, m, _, ex, _, hl, hel⟩ := DataW.trod_array he h
  refine ⟨cs.map byteOf, by simp [hlen], ?_⟩
  rw [List.map_map]
  apply List.ext_getElem?
  intro i
  by_cases hi : i < 32
  · have hE := hel i hi
    rw [hcq, Nat.mul_one, List.getElem?_eq_getElem (by omega)] at hE
    obtain ⟨z, e1, e2, hw⟩ := DataW.trod_int hq hE
    have h1 : cs[i]? = some (.int .u8 z) := by
      have h0 : ((cs.drop i).take 1)[0]? = some (.int .u8 z) := by rw [e1]; rfl
      simpa using h0
    rw [List.getElem?_map, h1]
    simp only [Option.map_some, Function.comp]
    exact congrArg some (byteOf_cell hw)
  · rw [List.getElem?_eq_none (by omega), List.getElem?_eq_none (by simp; omega)]

/-- AN ARGUMENT OF DIGESTS IN A ROW -/
theorem open_digs {t e q : TypeId} {W : World} {base : Nat} {v : Value} {d : DataW H} {ps : List MemPlace} (ht : P.underlying t = some (.slice e)) (he : P.underlying e = some (.array 32 q)) (hq : P.underlying q = some (.int .u8)) (hce : P.cellsOf e = 32) (hcq : P.cellsOf q = 1)
    (hval : Value.okWide P W .any base t v) (h : DataW.Trod enc P W 0 (fun _ => true) true t v d ps) : ∃ ds : List Bs, Dg ds ∧ RdD [] W v ds ∧ ds.length + 1 ≤ Rows.uptoBulk d := by
  obtain ⟨a, len, cap, rfl⟩ := okWide_slice ht hval
  obtain ⟨fuel, h⟩ := h
  have hcells : (Value.slice a len cap).cells.toList = [.slice a len cap] := rfl
  rw [hcells] at h
  rcases Deep.open_slice ht h with ⟨e1, e2⟩ | ⟨ad, len', cap', m, n, D, Pl, e1, hb, hl, hm, hmm, e2, hx⟩
  · cases e1
    cases e2
    exact ⟨[], Dg.nil, ⟨rfl, none, 0, rfl, Nat.le_refl _, fun _ => ⟨rfl, rfl⟩, fun _ h => by cases h⟩, by simp [Rows.uptoBulk]⟩
  · cases e1
    cases e2
    simp only [if_true] at hmm
    subst hmm
    rw [hce] at hx
    have hR : ∀ i, i < m → ∃ s : Bs, s.length = 32 ∧ ∀ j, j < 32 → W.cell? ((ad.add (i * 32)).add j) = (s.map B8)[j]? := fun i hi => by
      obtain ⟨cs', h1, h2⟩ := hx i hi
      obtain ⟨_, h3, h4⟩ := World.cells?_some h1
      obtain ⟨s, h5, rfl⟩ := trod_array8 he hq hcq h3 h2
      exact ⟨s, h5, h4⟩
    obtain ⟨f, hf⟩ : ∃ f : Nat → Bs, ∀ i, i < m → (f i).length = 32 ∧ ∀ j, j < 32 → W.cell? ((ad.add (i * 32)).add j) = ((f i).map B8)[j]? :=
      ⟨fun i => if hi : i < m then Classical.choose (hR i hi) else [], fun i hi => by simp only [dif_pos hi]; exact Classical.choose_spec (hR i hi)⟩
    have hD : Dg ((List.range len).map f) := fun x hx => by
      obtain ⟨i, hi, rfl⟩ := List.mem_map.1 hx
      exact (hf i (by have := List.mem_range.1 hi; omega)).1
    refine ⟨(List.range len).map f, hD, ⟨by rw [dc_length hD], some ad, m, by simp, by simpa using hl, fun h => (by cases h), fun ad' h' hm0 => ?_⟩, ?_⟩
    · cases h'
      have h0 : W.cell? ((ad.add (0 * 32)).add 0) = ((f 0).map B8)[0]? := (hf 0 hm0).2 0 (by decide)
      have hl0 := (hf 0 hm0).1
      have e0 : (ad.add (0 * 32)).add 0 = ad := by simp [Addr.add]
      rw [e0, List.getElem?_map, List.getElem?_eq_getElem (by omega)] at h0
      simp only [Option.map_some] at h0
      have hspot : ad.spot = none := by
        unfold World.cell? at h0
        split at h0
        · split at h0
          · cases h0
          · rename_i hs
            cases hq : ad.spot with
            | none => rfl
            | some s => rw [hq] at hs; exact absurd rfl hs
        · cases h0
      obtain ⟨b, off, sp⟩ := ad
      simp only at hspot
      subst hspot
      obtain ⟨arr, row, fr, harr⟩ : ∃ arr row fr, W.heap[b]? = some (.cells arr row fr) := by
        unfold World.cell? at h0
        split at h0
        · rename_i c el fr hq
          exact ⟨c, el, fr, hq⟩
        · cases h0
      have hcell : ∀ i j, i < m → j < 32 → arr[off + i * 32 + j]? = ((f i).map B8)[j]? := fun i j hi hj => by
        have h1 := (hf i hi).2 j hj
        rw [add_plain, add_plain] at h1
        simpa [World.cell?, harr] using h1
      refine ⟨rfl, by simp, arr, row, fr, harr, ?_, fun i hi => ?_⟩
      · have h1 := hcell (m - 1) 31 (by omega) (by decide)
        have h2 := (hf (m - 1) (by omega)).1
        rw [List.getElem?_map, List.getElem?_eq_getElem (by omega)] at h1
        have := (Array.getElem?_eq_some_iff.1 h1).1
        simp only
        omega
      · have hi' : i < len * 32 := by simpa using hi
        have hq1 : i / 32 < len := by omega
        have h1 := hcell (i / 32) (i % 32) (by omega) (Nat.mod_lt _ (by decide))
        have h2 := dc_at hD (i := i / 32) (by simpa using hq1)
        have h3 : ((List.range len).map f).getD (i / 32) [] = f (i / 32) := by simp [List.getD, hq1]
        rw [h3] at h2
        have h4 : ((dc ((List.range len).map f)).drop (i / 32 * 32)).take 32 = (f (i / 32)).map B8 := h2
        rw [← h4, List.getElem?_take, if_pos (Nat.mod_lt _ (by decide)), List.getElem?_drop] at h1
        have h5 : i / 32 * 32 + i % 32 = i := by omega
        rw [h5, Nat.add_assoc, h5] at h1
        exact h1
    · have := bulk_slice (H := H) ((List.range len).map D) ((List.range (m - len)).map fun j => D (len + j))
      simpa using this
theorem i64_le {n : Int} (h : (Lit.int .i64 n).wf = true) : n ≤ 9223372036854775807 := by
  simp only [Lit.wf, Bool.and_eq_true, decide_eq_true_eq] at h
  exact h.2
end
end Go.Proofs.YthhdilafnfcpbaaDoor
/- More arguments' readings: structs of whole numbers. -/
namespace Go.Proofs.YthhdilafnfcpbaaDoor
open Go Go.ChangeShapes Go.WideShapes Go.ChangeAt Go.RowKit
section
variable {H : Type} {enc : TypeId × Value → H} {P : Program}
theorem intF_get : ∀ {fs : List Field} {k i : Nat} {f : Field}, intF P k fs = true → fs[i]? = some f → P.underlying f.type = some (.int .i64) ∧ f.offset = k + i
  | [], _, _, _, _, h => by simp at h
  | g :: fs, k, i, f, h, hi => by
    simp only [intF, Bool.and_eq_true, bne_iff_ne, ne_eq, beq_iff_eq] at h
    obtain ⟨⟨⟨h1, h2⟩, h3⟩, h4⟩ := h
    cases i with
    | zero =>
      simp only [List.getElem?_cons_zero, Option.some.injEq] at hi
      subst hi
      refine ⟨?_, by omega⟩
      revert h1
      split
      · intro _; assumption
      · intro h; cases h
    | succ i =>
      simp only [List.getElem?_cons_succ] at hi
      have := intF_get (k := k + 1) h4 hi
      exact ⟨this.1, by omega⟩
def intOf : Value → Int
  | .int _ z => z
  | _ => 0
/-- AN ARGUMENT THAT IS A STRUCT OF WHOLE NUMBERS -/
theorem open_ints {t : TypeId} {fs : Array Field} {n : Nat} {W : World} {base : Nat} {v : Value} {d : DataW H} {ps : List MemPlace} (ht : P.underlying t = some (.struct fs)) (hi : intF P 0 fs.toList = true) (hn : fs.toList.length = n) (hct : P.cellsOf t = n)
    (hc1 : (fs.toList.all fun f => P.cellsOf f.type == 1) = true)
    (hval : Value.okWide P W .any base t v) (h : DataW.Trod enc P W 0 (fun _ => true) true t v d ps) : ∃ ts : List Int, ts.length = n ∧ v = .agg (ts.map I).toArray ∧ ∀ z ∈ ts, (Lit.int .i64 z).wf = true := by
  obtain ⟨cs, rfl, hsz⟩ := okWide_struct ht hval
  obtain ⟨fuel, h⟩ := h
  have hcells : (Value.agg cs).cells.toList = cs.toList := rfl
  rw [hcells] at h
  obtain ⟨xs, m, _, _, hl, hlen, hf⟩ := DataW.trod_struct ht h
  have hcell : ∀ i, i < n → ∃ z, cs.toList[i]? = some (I z) ∧ (Lit.int .i64 z).wf = true := fun i hin => by
    have hfi : fs.toList[i]? = some fs.toList[i] := List.getElem?_eq_getElem (by omega)
    obtain ⟨g1, g2⟩ := intF_get hi hfi
    have g3 : P.cellsOf fs.toList[i].type = 1 := by
      have := List.all_eq_true.1 hc1 _ (List.getElem_mem (l := fs.toList) (n := i) (by omega))
      simpa using this
    have hE := hf i fs.toList[i] (by simp)
    have hx : i < xs.length := by rw [hlen]; simp at hn; omega
    rw [g2, g3, Nat.zero_add, List.getElem?_eq_getElem hx] at hE
    obtain ⟨z, e1, _, hw⟩ := DataW.trod_int g1 hE
    refine ⟨z, ?_, hw⟩
    have h0 : ((cs.toList.drop i).take 1)[0]? = some (I z) := by rw [e1]; rfl
    simpa using h0
  refine ⟨cs.toList.map intOf, by simp [hsz, hct], ?_, fun z hz => ?_⟩
  · congr 1
    apply Array.ext'
    simp only [List.map_map]
    apply List.ext_getElem?
    intro i
    by_cases hin : i < n
    · obtain ⟨z, h1, _⟩ := hcell i hin
      rw [List.getElem?_map, h1]
      rfl
    · rw [List.getElem?_eq_none (by simp [hsz, hct]; omega), List.getElem?_eq_none (by simp [hsz, hct]; omega)]
  · obtain ⟨u, hu, rfl⟩ := List.mem_map.1 hz
    obtain ⟨i, hi2, hui⟩ := List.mem_iff_getElem.1 hu
    have hin : i < n := by simp [hsz, hct] at hi2; exact hi2
    obtain ⟨z, h1, h2⟩ := hcell i hin
    rw [List.getElem?_eq_getElem hi2, hui] at h1
    simp only [Option.some.injEq] at h1
    subst h1
    exact h2
end
end Go.Proofs.YthhdilafnfcpbaaDoor
/- More arguments' readings: signatures. -/
namespace Go.Proofs.YthhdilafnfcpbaaDoor
open Go Go.ChangeShapes Go.WideShapes Go.ChangeAt Go.RowKit
section
variable {H : Type} {enc : TypeId × Value → H} {P : Program}
/-- digests out of a cell that holds a slice -/
theorem digs_of {t e q : TypeId} {W : World} {cs : List Value} {d : DataW H} {ps : List MemPlace} {fuel : Nat} (ht : P.underlying t = some (.slice e)) (he : P.underlying e = some (.array 32 q)) (hq : P.underlying q = some (.int .u8)) (hce : P.cellsOf e = 32) (hcq : P.cellsOf q = 1)
    (h : DataW.trod enc P W 0 (fun _ => true) true fuel t cs = some (d, ps)) : ∃ (v : Value) (ds : List Bs), cs = [v] ∧ Dg ds ∧ RdD [] W v ds ∧ ds.length + 1 ≤ Rows.uptoBulk d := by
  have hv : ∃ a len cap, cs = [.slice a len cap] := by
    rcases Deep.open_slice ht h with ⟨e1, _⟩ | ⟨ad, len, cap, m, n, D, Pl, e1, _⟩
    · exact ⟨_, _, _, e1⟩
    · exact ⟨_, _, _, e1⟩
  obtain ⟨a, len, cap, rfl⟩ := hv
  rcases Deep.open_slice ht h with ⟨e1, e2⟩ | ⟨ad, len', cap', m, n, D, Pl, e1, hb, hl, hm, hmm, e2, hx⟩
  · cases e1
    cases e2
    exact ⟨_, [], rfl, Dg.nil, ⟨rfl, none, 0, rfl, Nat.le_refl _, fun _ => ⟨rfl, rfl⟩, fun _ h => by cases h⟩, by simp [Rows.uptoBulk]⟩
  · cases e1
    cases e2
    simp only [if_true] at hmm
    subst hmm
    rw [hce] at hx
    have hR : ∀ i, i < m → ∃ s : Bs, s.length = 32 ∧ ∀ j, j < 32 → W.cell? ((ad.add (i * 32)).add j) = (s.map B8)[j]? := fun i hi => by
      obtain ⟨cs', h1, h2⟩ := hx i hi
      obtain ⟨_, h3, h4⟩ := World.cells?_some h1
      obtain ⟨s, h5, rfl⟩ := trod_array8 he hq hcq h3 h2
      exact ⟨s, h5, h4⟩
    obtain ⟨f, hf⟩ : ∃ f : Nat → Bs, ∀ i, i < m → (f i).length = 32 ∧ ∀ j, j < 32 → W.cell? ((ad.add (i * 32)).add j) = ((f i).map B8)[j]? :=
      ⟨fun i => if hi : i < m then Classical.choose (hR i hi) else [], fun i hi => by simp only [dif_pos hi]; exact Classical.choose_spec (hR i hi)⟩
    have hD : Dg ((List.range len).map f) := fun x hx => by
      obtain ⟨i, hi, rfl⟩ := List.mem_map.1 hx
      exact (hf i (by have := List.mem_range.1 hi; omega)).1
    refine ⟨_, (List.range len).map f, rfl, hD, ⟨by rw [dc_length hD], some ad, m, by simp, by simpa using hl, fun h => (by cases h), fun ad' h' hm0 => ?_⟩, ?_⟩
    · cases h'
      have h0 : W.cell? ((ad.add (0 * 32)).add 0) = ((f 0).map B8)[0]? := (hf 0 hm0).2 0 (by decide)
      have hl0 := (hf 0 hm0).1
      have e0 : (ad.add (0 * 32)).add 0 = ad := by simp [Addr.add]
      rw [e0, List.getElem?_map, List.getElem?_eq_getElem (by omega)] at h0
      simp only [Option.map_some] at h0
      have hspot : ad.spot = none := by
        unfold World.cell? at h0
        split at h0
        · split at h0
          · cases h0
          · rename_i hs
            cases hq : ad.spot with
            | none => rfl
            | some s => rw [hq] at hs; exact absurd rfl hs
        · cases h0
      obtain ⟨b, off, sp⟩ := ad
      simp only at hspot
      subst hspot
      obtain ⟨arr, row, fr, harr⟩ : ∃ arr row fr, W.heap[b]? = some (.cells arr row fr) := by
        unfold World.cell? at h0
        split at h0
        · rename_i c el fr hq
          exact ⟨c, el, fr, hq⟩
        · cases h0
      have hcell : ∀ i j, i < m → j < 32 → arr[off + i * 32 + j]? = ((f i).map B8)[j]? := fun i j hi hj => by
        have h1 := (hf i hi).2 j hj
        rw [add_plain, add_plain] at h1
        simpa [World.cell?, harr] using h1
      refine ⟨rfl, by simp, arr, row, fr, harr, ?_, fun i hi => ?_⟩
      · have h1 := hcell (m - 1) 31 (by omega) (by decide)
        have h2 := (hf (m - 1) (by omega)).1
        rw [List.getElem?_map, List.getElem?_eq_getElem (by omega)] at h1
        have := (Array.getElem?_eq_some_iff.1 h1).1
        simp only
        omega
      · have hi' : i < len * 32 := by simpa using hi
        have hq1 : i / 32 < len := by omega
        have h1 := hcell (i / 32) (i % 32) (by omega) (Nat.mod_lt _ (by decide))
        have h2 := dc_at hD (i := i / 32) (by simpa using hq1)
        have h3 : ((List.range len).map f).getD (i / 32) [] = f (i / 32) := by simp [List.getD, hq1]
        rw [h3] at h2
        have h4 : ((dc ((List.range len).map f)).drop (i / 32 * 32)).take 32 = (f (i / 32)).map B8 := h2
        rw [← h4, List.getElem?_take, if_pos (Nat.mod_lt _ (by decide)), List.getElem?_drop] at h1
        have h5 : i / 32 * 32 + i % 32 = i := by omega
        rw [h5, Nat.add_assoc, h5] at h1
        exact h1
    · have := bulk_slice (H := H) ((List.range len).map D) ((List.range (m - len)).map fun j => D (len + j))
      simpa using this
/-- AN ARGUMENT THAT IS A SIGNATURE -/
theorem open_sig {t e q : TypeId} {fs : Array Field} {W : World} {base : Nat} {v : Value} {d : DataW H} {ps : List MemPlace} (ht : P.underlying t = some (.struct fs)) {f0 f1 f2 : Field} (h0 : fs[0]? = some f0) (h1 : fs[1]? = some f1) (h2 : fs[2]? = some f2)
    (hti : P.underlying f0.type = some (.int .i64)) (htd : P.underlying f1.type = some (.slice e)) (htd2 : P.underlying f2.type = some (.slice e)) (ho0 : f0.offset = 0) (ho1 : f1.offset = 1) (ho2 : f2.offset = 2) (he : P.underlying e = some (.array 32 q)) (hq : P.underlying q = some (.int .u8)) (hce : P.cellsOf e = 32) (hcq : P.cellsOf q = 1)
    (hc0 : P.cellsOf f0.type = 1) (hc1 : P.cellsOf f1.type = 1) (hc2 : P.cellsOf f2.type = 1) (hct : P.cellsOf t = 3) (hfs : fs.size = 3)
    (hval : Value.okWide P W .any base t v) (h : DataW.Trod enc P W 0 (fun _ => true) true t v d ps) :
    ∃ (ix : Int) (u x : Value) (A B : List Bs), v = .agg #[I ix, u, x] ∧ Dg A ∧ Dg B ∧ RdD [] W u A ∧ RdD [] W x B ∧ A.length + B.length ≤ Rows.uptoBulk d ∧ (Lit.int .i64 ix).wf = true := by
  obtain ⟨cs, rfl, hsz⟩ := okWide_struct ht hval
  obtain ⟨fuel, h⟩ := h
  have hcells : (Value.agg cs).cells.toList = cs.toList := rfl
  rw [hcells] at h
  obtain ⟨xs, m, _, e2, hl, hlen, hf⟩ := DataW.trod_struct ht h
  rw [hct] at hsz
  obtain ⟨c0, c1, c2, hcs⟩ : ∃ c0 c1 c2, cs.toList = [c0, c1, c2] := by
    have hL : cs.toList.length = 3 := by simpa using hsz
    match hh : cs.toList, hL with
    | [c0, c1, c2], _ => exact ⟨c0, c1, c2, rfl⟩
  obtain ⟨x0, x1, x2, rfl⟩ : ∃ x0 x1 x2, xs = [x0, x1, x2] := by
    rw [hfs] at hlen
    match xs, hlen with
    | [c0, c1, c2], _ => exact ⟨c0, c1, c2, rfl⟩
  have g0 := hf 0 f0 h0
  have g1 := hf 1 f1 h1
  have g2 := hf 2 f2 h2
  rw [hcs, hc0, ho0] at g0
  rw [hcs, hc1, ho1] at g1
  rw [hcs, hc2, ho2] at g2
  simp only [List.drop_zero, List.take_succ_cons, List.take_zero, List.getElem?_cons_zero, List.getElem?_cons_succ, List.drop_succ_cons] at g0 g1 g2
  obtain ⟨ix, e3, _, hw⟩ := DataW.trod_int hti g0
  obtain ⟨u, A, e4, hA, hrA, hbA⟩ := digs_of (d := x1.1) (ps := x1.2) htd he hq hce hcq g1
  obtain ⟨x, B, e5, hB, hrB, hbB⟩ := digs_of (d := x2.1) (ps := x2.2) htd2 he hq hce hcq g2
  simp only [List.cons.injEq, and_true] at e3 e4 e5
  refine ⟨ix, u, x, A, B, ?_, hA, hB, hrA, hrB, ?_, hw⟩
  · congr 1
    apply Array.ext'
    rw [hcs, e3, e4, e5]
  · cases e2
    simp only [Rows.uptoBulk, Rows.uptoBulkAll, List.map_cons]
    omega
end
end Go.Proofs.YthhdilafnfcpbaaDoor
/- More arguments' readings: results, what may be signed. -/
namespace Go.Proofs.YthhdilafnfcpbaaDoor
open Go Go.ChangeShapes Go.WideShapes Go.ChangeAt Go.RowKit
section
variable {H : Type} {enc : TypeId × Value → H} {P : Program}
/-- bytes out of a cell that holds a slice, and how many at most -/
theorem bytes_of {q : TypeId} {t : TypeId} {W : World} {v : Value} {d : DataW H} {ps : List MemPlace} {n : Nat} (ht : P.underlying t = some (.slice q)) (hq : P.underlying q = some (.int .u8)) (hc : P.cellsOf q = 1)
    (h : DataW.trod enc P W 0 (fun _ => true) true n t [v] = some (d, ps)) : ∃ l : Bs, By [] W v l ∧ l.length + 1 ≤ Rows.uptoBulk d := by
  rcases Deep.open_slice1 ht hc h with ⟨e1, e2⟩ | ⟨ad, len, cap, m, n', V, D, Pl, e1, hb, hl, hm, hmm, e2, hx⟩
  · cases e1
    cases e2
    exact ⟨[], ⟨rfl, none, 0, rfl, Nat.le_refl _, fun _ => ⟨rfl, rfl⟩, fun _ h => by cases h⟩, by simp [Rows.uptoBulk]⟩
  · cases e1
    simp only [if_true] at hmm
    subst hmm
    have hV : ∀ i, i < m → V i = B8 (byteOf (V i)) := fun i hi => by
      obtain ⟨z, hz, _, hw⟩ := DataW.trod_int hq (hx i hi).2
      have : V i = .int .u8 z := by simpa using hz
      rw [this]
      exact byteOf_cell hw
    refine ⟨(List.range len).map fun i => byteOf (V i), ⟨by simp, some ad, m, by simp, by simpa using hl, fun h => (by cases h), fun ad' h' hm0 => ?_⟩, by
      cases e2
      have := bulk_slice (H := H) ((List.range len).map D) ((List.range (m - len)).map fun j => D (len + j))
      simpa using this⟩
    cases h'
    have h0 := (hx 0 hm0).1
    have hspot : ad.spot = none := by
      have e : ad.add 0 = ad := by simp [Addr.add]
      rw [e] at h0
      unfold World.cell? at h0
      split at h0
      · split at h0
        · cases h0
        · rename_i hs
          cases hq : ad.spot with
          | none => rfl
          | some s => rw [hq] at hs; exact absurd rfl hs
      · cases h0
    have hadd : ∀ i, ad.add i = ⟨ad.block, ad.off + i, none⟩ := fun i => by
      cases ad
      simp only at hspot
      subst hspot
      exact add_plain _ _ _
    obtain ⟨arr, row, fr, harr⟩ : ∃ arr row fr, W.heap[ad.block]? = some (.cells arr row fr) := by
      rw [hadd] at h0
      unfold World.cell? at h0
      split at h0
      · rename_i c el fr hq
        exact ⟨c, el, fr, hq⟩
      · cases h0
    have hcell : ∀ i, i < m → arr[ad.off + i]? = some (V i) := fun i hi => by
      have h1 := (hx i hi).1
      rw [hadd] at h1
      simpa [World.cell?, harr] using h1
    refine ⟨hspot, by simp, arr, row, fr, harr, ?_, fun i hi => ?_⟩
    · have := (Array.getElem?_eq_some_iff.1 (hcell (m - 1) (by omega))).1
      omega
    · have hi' : i < len := by simpa using hi
      rw [hcell i (by omega), hV i (by omega)]
      simp [hi', byteOf, B8]

/-- a signature out of its cells -/
theorem sig_of {t e q : TypeId} {fs : Array Field} {W : World} {cs : List Value} {fuel : Nat} {d : DataW H} {ps : List MemPlace} (ht : P.underlying t = some (.struct fs)) {f0 f1 f2 : Field} (h0 : fs[0]? = some f0) (h1 : fs[1]? = some f1) (h2 : fs[2]? = some f2)
    (hti : P.underlying f0.type = some (.int .i64)) (htd : P.underlying f1.type = some (.slice e)) (htd2 : P.underlying f2.type = some (.slice e)) (ho0 : f0.offset = 0) (ho1 : f1.offset = 1) (ho2 : f2.offset = 2) (he : P.underlying e = some (.array 32 q)) (hq : P.underlying q = some (.int .u8)) (hce : P.cellsOf e = 32) (hcq : P.cellsOf q = 1)
    (hc0 : P.cellsOf f0.type = 1) (hc1 : P.cellsOf f1.type = 1) (hc2 : P.cellsOf f2.type = 1) (hct : P.cellsOf t = 3) (hfs : fs.size = 3)
    (h : DataW.trod enc P W 0 (fun _ => true) true fuel t cs = some (d, ps)) :
    ∃ (ix : Int) (u x : Value) (A B : List Bs), cs = [I ix, u, x] ∧ Dg A ∧ Dg B ∧ RdD [] W u A ∧ RdD [] W x B ∧ A.length + B.length ≤ Rows.uptoBulk d ∧ (Lit.int .i64 ix).wf = true := by
  obtain ⟨xs, m, _, e2, hl, hlen, hf⟩ := DataW.trod_struct ht h
  rw [hct] at hl
  obtain ⟨c0, c1, c2, hcs⟩ : ∃ c0 c1 c2, cs = [c0, c1, c2] := by
    match cs, hl with
    | [c0, c1, c2], _ => exact ⟨c0, c1, c2, rfl⟩
  obtain ⟨x0, x1, x2, rfl⟩ : ∃ x0 x1 x2, xs = [x0, x1, x2] := by
    rw [hfs] at hlen
    match xs, hlen with
    | [c0, c1, c2], _ => exact ⟨c0, c1, c2, rfl⟩
  have g0 := hf 0 f0 h0
  have g1 := hf 1 f1 h1
  have g2 := hf 2 f2 h2
  rw [hcs, hc0, ho0] at g0
  rw [hcs, hc1, ho1] at g1
  rw [hcs, hc2, ho2] at g2
  simp only [List.drop_zero, List.take_succ_cons, List.take_zero, List.getElem?_cons_zero, List.getElem?_cons_succ, List.drop_succ_cons] at g0 g1 g2
  obtain ⟨ix, e3, _, hw⟩ := DataW.trod_int hti g0
  obtain ⟨u, A, e4, hA, hrA, hbA⟩ := digs_of (d := x1.1) (ps := x1.2) htd he hq hce hcq g1
  obtain ⟨x, B, e5, hB, hrB, hbB⟩ := digs_of (d := x2.1) (ps := x2.2) htd2 he hq hce hcq g2
  simp only [List.cons.injEq, and_true] at e3 e4 e5
  refine ⟨ix, u, x, A, B, ?_, hA, hB, hrA, hrB, ?_, hw⟩
  · rw [hcs, e3, e4, e5]
  · cases e2
    simp only [Rows.uptoBulk, Rows.uptoBulkAll, List.map_cons]
    omega
/-- what a signature's struct is of -/
structure SigT (P : Program) (t : TypeId) : Prop where
  h : ∃ (e q : TypeId) (fs : Array Field) (f0 f1 f2 : Field), P.underlying t = some (.struct fs) ∧ fs[0]? = some f0 ∧ fs[1]? = some f1 ∧ fs[2]? = some f2 ∧ P.underlying f0.type = some (.int .i64) ∧ P.underlying f1.type = some (.slice e) ∧ P.underlying f2.type = some (.slice e) ∧ f0.offset = 0 ∧ f1.offset = 1 ∧ f2.offset = 2 ∧ P.underlying e = some (.array 32 q) ∧ P.underlying q = some (.int .u8) ∧ P.cellsOf e = 32 ∧ P.cellsOf q = 1 ∧
    P.cellsOf f0.type = 1 ∧ P.cellsOf f1.type = 1 ∧ P.cellsOf f2.type = 1 ∧ P.cellsOf t = 3 ∧ fs.size = 3
theorem sig_ofT {t : TypeId} {W : World} {cs : List Value} {fuel : Nat} {d : DataW H} {ps : List MemPlace} (hT : SigT P t) (h : DataW.trod enc P W 0 (fun _ => true) true fuel t cs = some (d, ps)) :
    ∃ (ix : Int) (u x : Value) (A B : List Bs), cs = [I ix, u, x] ∧ Dg A ∧ Dg B ∧ RdD [] W u A ∧ RdD [] W x B ∧ A.length + B.length ≤ Rows.uptoBulk d ∧ (Lit.int .i64 ix).wf = true := by
  obtain ⟨e, q, fs, f0, f1, f2, a1, a2, a3, a4, a5, a6, a7, a8, a9, b1, b2, b3, b4, b5, b6, b7, b8, b9, c1⟩ := hT.h
  exact sig_of a1 a2 a3 a4 a5 a6 a7 a8 a9 b1 b2 b3 b4 b5 b6 b7 b8 b9 c1 h
/-- AN ARGUMENT THAT IS A RESULT -/
theorem open_res {t q : TypeId} {fs : Array Field} {f0 f1 f2 : Field} {W : World} {base : Nat} {v : Value} {d : DataW H} {ps : List MemPlace} (ht : P.underlying t = some (.struct fs)) (h0 : fs[0]? = some f0) (h1 : fs[1]? = some f1) (h2 : fs[2]? = some f2)
    (t0 : P.underlying f0.type = some (.slice q)) (t1 : P.underlying f1.type = some (.slice q)) (t2 : SigT P f2.type) (hq : P.underlying q = some (.int .u8)) (hcq : P.cellsOf q = 1) (o0 : f0.offset = 0) (o1 : f1.offset = 1) (o2 : f2.offset = 2)
    (c0 : P.cellsOf f0.type = 1) (c1 : P.cellsOf f1.type = 1) (c2 : P.cellsOf f2.type = 3) (hct : P.cellsOf t = 5) (hfs : fs.size = 3)
    (hval : Value.okWide P W .any base t v) (h : DataW.Trod enc P W 0 (fun _ => true) true t v d ps) :
    ∃ (tv vv : Value) (T V : Bs) (ix : Int) (u x : Value) (A B : List Bs), v = .agg #[tv, vv, I ix, u, x] ∧ By [] W tv T ∧ By [] W vv V ∧ Dg A ∧ Dg B ∧ RdD [] W u A ∧ RdD [] W x B ∧ T.length + V.length + A.length + B.length ≤ Rows.uptoBulk d ∧ (Lit.int .i64 ix).wf = true := by
  obtain ⟨cs, rfl, hsz⟩ := okWide_struct ht hval
  obtain ⟨fuel, h⟩ := h
  have hcells : (Value.agg cs).cells.toList = cs.toList := rfl
  rw [hcells] at h
  obtain ⟨xs, m, _, e2, hl, hlen, hf⟩ := DataW.trod_struct ht h
  rw [hct] at hsz
  obtain ⟨d0, d1, d2, d3, d4, hcs⟩ : ∃ c0 c1 c2 c3 c4, cs.toList = [c0, c1, c2, c3, c4] := by
    have hL : cs.toList.length = 5 := by simpa using hsz
    match hh : cs.toList, hL with
    | [c0, c1, c2, c3, c4], _ => exact ⟨c0, c1, c2, c3, c4, rfl⟩
  obtain ⟨x0, x1, x2, rfl⟩ : ∃ x0 x1 x2, xs = [x0, x1, x2] := by
    rw [hfs] at hlen
    match xs, hlen with
    | [c0, c1, c2], _ => exact ⟨c0, c1, c2, rfl⟩
  have g0 := hf 0 f0 h0
  have g1 := hf 1 f1 h1
  have g2 := hf 2 f2 h2
  rw [hcs, c0, o0] at g0
  rw [hcs, c1, o1] at g1
  rw [hcs, c2, o2] at g2
  simp only [List.drop_zero, List.take_succ_cons, List.take_zero, List.getElem?_cons_zero, List.getElem?_cons_succ, List.drop_succ_cons] at g0 g1 g2
  obtain ⟨T, hT, hbT⟩ := bytes_of (d := x0.1) (ps := x0.2) t0 hq hcq g0
  obtain ⟨V, hV, hbV⟩ := bytes_of (d := x1.1) (ps := x1.2) t1 hq hcq g1
  obtain ⟨ix, u, x, A, B, e5, hA, hB, hrA, hrB, hbB, hw⟩ := sig_ofT (d := x2.1) (ps := x2.2) t2 g2
  simp only [List.cons.injEq, and_true] at e5
  refine ⟨d0, d1, T, V, ix, u, x, A, B, ?_, hT, hV, hA, hB, hrA, hrB, ?_, hw⟩
  · congr 1
    apply Array.ext'
    rw [hcs, e5.1, e5.2.1, e5.2.2]
  · cases e2
    simp only [Rows.uptoBulk, Rows.uptoBulkAll, List.map_cons]
    omega
/-- AN ARGUMENT THAT IS WHAT MAY BE SIGNED -/
theorem open_said {t q : TypeId} {fs : Array Field} {f0 f1 f2 f3 : Field} {W : World} {base : Nat} {v : Value} {d : DataW H} {ps : List MemPlace} (ht : P.underlying t = some (.struct fs)) (h0 : fs[0]? = some f0) (h1 : fs[1]? = some f1) (h2 : fs[2]? = some f2) (h3 : fs[3]? = some f3)
    (t0 : P.underlying f0.type = some (.int .i64)) (t1 : P.underlying f1.type = some (.int .i64)) (t2 : P.underlying f2.type = some (.slice q)) (t3 : P.underlying f3.type = some (.array 32 q)) (hq : P.underlying q = some (.int .u8)) (hcq : P.cellsOf q = 1) (o0 : f0.offset = 0) (o1 : f1.offset = 1) (o2 : f2.offset = 2) (o3 : f3.offset = 3)
    (c0 : P.cellsOf f0.type = 1) (c1 : P.cellsOf f1.type = 1) (c2 : P.cellsOf f2.type = 1) (c3 : P.cellsOf f3.type = 32) (hct : P.cellsOf t = 35) (hfs : fs.size = 4)
    (hval : Value.okWide P W .any base t v) (h : DataW.Trod enc P W 0 (fun _ => true) true t v d ps) :
    ∃ (j a : Int) (u : Value) (l n : Bs), v = .agg (saidC j a u n).toArray ∧ By [] W u l ∧ n.length = 32 ∧ l.length ≤ Rows.uptoBulk d ∧ (Lit.int .i64 j).wf = true ∧ (Lit.int .i64 a).wf = true := by
  obtain ⟨cs, rfl, hsz⟩ := okWide_struct ht hval
  obtain ⟨fuel, h⟩ := h
  have hcells : (Value.agg cs).cells.toList = cs.toList := rfl
  rw [hcells] at h
  obtain ⟨xs, m, _, e2, hl, hlen, hf⟩ := DataW.trod_struct ht h
  rw [hct] at hsz
  obtain ⟨d0, d1, d2, D, hcs⟩ : ∃ c0 c1 c2 D, cs.toList = c0 :: c1 :: c2 :: D := by
    have hL : cs.toList.length = 35 := by simpa using hsz
    match hh : cs.toList, hL with
    | c0 :: c1 :: c2 :: D, _ => exact ⟨c0, c1, c2, D, rfl⟩
  have hDl : D.length = 32 := by
    have := congrArg List.length hcs
    simp only [List.length_cons, Array.length_toList] at this
    omega
  obtain ⟨x0, x1, x2, x3, rfl⟩ : ∃ x0 x1 x2 x3, xs = [x0, x1, x2, x3] := by
    rw [hfs] at hlen
    match xs, hlen with
    | [c0, c1, c2, c3], _ => exact ⟨c0, c1, c2, c3, rfl⟩
  have g0 := hf 0 f0 h0
  have g1 := hf 1 f1 h1
  have g2 := hf 2 f2 h2
  have g3 := hf 3 f3 h3
  rw [hcs, c0, o0] at g0
  rw [hcs, c1, o1] at g1
  rw [hcs, c2, o2] at g2
  rw [hcs, c3, o3] at g3
  simp only [List.drop_zero, List.take_succ_cons, List.take_zero, List.getElem?_cons_zero, List.getElem?_cons_succ, List.drop_succ_cons] at g0 g1 g2 g3
  rw [show List.take 32 D = D from List.take_of_length_le (by omega)] at g3
  obtain ⟨j, e3, _, hw3⟩ := DataW.trod_int t0 g0
  obtain ⟨a, e4, _, hw4⟩ := DataW.trod_int t1 g1
  obtain ⟨l, hlr, hbl⟩ := bytes_of (d := x2.1) (ps := x2.2) t2 hq hcq g2
  obtain ⟨n, hn, e5⟩ := trod_array8 t3 hq hcq hDl g3
  simp only [List.cons.injEq, and_true] at e3 e4
  refine ⟨j, a, d2, l, n, ?_, hlr, hn, ?_, hw3, hw4⟩
  · congr 1
    apply Array.ext'
    rw [hcs, e3, e4, e5]
    rfl
  · cases e2
    simp only [Rows.uptoBulk, Rows.uptoBulkAll, List.map_cons]
    omega
end
end Go.Proofs.YthhdilafnfcpbaaDoor
/- More arguments' readings: orders. -/
namespace Go.Proofs.YthhdilafnfcpbaaDoor
open Go Go.ChangeShapes Go.WideShapes Go.ChangeAt Go.RowKit
section
variable {H : Type} {enc : TypeId × Value → H} {P : Program}
/-- the cells of an order -/
theorem ord_of {t q : TypeId} {fs : Array Field} {f0 f1 f2 f3 f4 f5 : Field} {W : World} {cs : List Value} {fuel : Nat} {d : DataW H} {ps : List MemPlace} (ht : P.underlying t = some (.struct fs)) (h0 : fs[0]? = some f0) (h1 : fs[1]? = some f1) (h2 : fs[2]? = some f2) (h3 : fs[3]? = some f3) (h4 : fs[4]? = some f4) (h5 : fs[5]? = some f5)
    (t0 : P.underlying f0.type = some (.int .i64)) (t1 : P.underlying f1.type = some (.int .i64)) (t2 : P.underlying f2.type = some (.int .i64)) (t3 : P.underlying f3.type = some (.slice q)) (t4 : P.underlying f4.type = some (.slice q)) (t5 : P.underlying f5.type = some (.array 32 q)) (hq : P.underlying q = some (.int .u8)) (hcq : P.cellsOf q = 1)
    (o0 : f0.offset = 0) (o1 : f1.offset = 1) (o2 : f2.offset = 2) (o3 : f3.offset = 3) (o4 : f4.offset = 4) (o5 : f5.offset = 5)
    (c0 : P.cellsOf f0.type = 1) (c1 : P.cellsOf f1.type = 1) (c2 : P.cellsOf f2.type = 1) (c3 : P.cellsOf f3.type = 1) (c4 : P.cellsOf f4.type = 1) (c5 : P.cellsOf f5.type = 32) (hfs : fs.size = 6) (hsz : cs.length = 37)
    (h : DataW.trod enc P W 0 (fun _ => true) true fuel t cs = some (d, ps)) :
    ∃ (j a i : Int) (u x : Value) (T L n : Bs), cs = ordC j a i u x n ∧ By [] W u T ∧ By [] W x L ∧ n.length = 32 ∧ T.length + L.length ≤ Rows.uptoBulk d ∧ (Lit.int .i64 j).wf = true ∧ (Lit.int .i64 a).wf = true ∧ (Lit.int .i64 i).wf = true := by
  obtain ⟨xs, m, _, e2, hl, hlen, hf⟩ := DataW.trod_struct ht h
  obtain ⟨d0, d1, d2, d3, d4, D, rfl⟩ : ∃ c0 c1 c2 c3 c4 D, cs = c0 :: c1 :: c2 :: c3 :: c4 :: D := by
    match cs, hsz with
    | c0 :: c1 :: c2 :: c3 :: c4 :: D, _ => exact ⟨c0, c1, c2, c3, c4, D, rfl⟩
  have hDl : D.length = 32 := by simp only [List.length_cons] at hsz; omega
  obtain ⟨x0, x1, x2, x3, x4, x5, rfl⟩ : ∃ x0 x1 x2 x3 x4 x5, xs = [x0, x1, x2, x3, x4, x5] := by
    rw [hfs] at hlen
    match xs, hlen with
    | [c0, c1, c2, c3, c4, c5], _ => exact ⟨c0, c1, c2, c3, c4, c5, rfl⟩
  have g0 := hf 0 f0 h0
  have g1 := hf 1 f1 h1
  have g2 := hf 2 f2 h2
  have g3 := hf 3 f3 h3
  have g4 := hf 4 f4 h4
  have g5 := hf 5 f5 h5
  rw [c0, o0] at g0
  rw [c1, o1] at g1
  rw [c2, o2] at g2
  rw [c3, o3] at g3
  rw [c4, o4] at g4
  rw [c5, o5] at g5
  simp only [List.drop_zero, List.take_succ_cons, List.take_zero, List.getElem?_cons_zero, List.getElem?_cons_succ, List.drop_succ_cons] at g0 g1 g2 g3 g4 g5
  rw [show List.take 32 D = D from List.take_of_length_le (by omega)] at g5
  obtain ⟨j, e3, _, hw3⟩ := DataW.trod_int t0 g0
  obtain ⟨a, e4, _, hw4⟩ := DataW.trod_int t1 g1
  obtain ⟨i, e6, _, hw6⟩ := DataW.trod_int t2 g2
  obtain ⟨T, hT, hbT⟩ := bytes_of (d := x3.1) (ps := x3.2) t3 hq hcq g3
  obtain ⟨L, hL, hbL⟩ := bytes_of (d := x4.1) (ps := x4.2) t4 hq hcq g4
  obtain ⟨n, hn, e5⟩ := trod_array8 t5 hq hcq hDl g5
  simp only [List.cons.injEq, and_true] at e3 e4 e6
  refine ⟨j, a, i, d3, d4, T, L, n, ?_, hT, hL, hn, ?_, hw3, hw4, hw6⟩
  · rw [e3, e4, e6, e5]; rfl
  · cases e2
    simp only [Rows.uptoBulk, Rows.uptoBulkAll, List.map_cons]
    omega
structure OrdT (P : Program) (t : TypeId) : Prop where
  h : ∃ (q : TypeId) (fs : Array Field) (f0 f1 f2 f3 f4 f5 : Field), P.underlying t = some (.struct fs) ∧ fs[0]? = some f0 ∧ fs[1]? = some f1 ∧ fs[2]? = some f2 ∧ fs[3]? = some f3 ∧ fs[4]? = some f4 ∧ fs[5]? = some f5 ∧
    P.underlying f0.type = some (.int .i64) ∧ P.underlying f1.type = some (.int .i64) ∧ P.underlying f2.type = some (.int .i64) ∧ P.underlying f3.type = some (.slice q) ∧ P.underlying f4.type = some (.slice q) ∧ P.underlying f5.type = some (.array 32 q) ∧ P.underlying q = some (.int .u8) ∧ P.cellsOf q = 1 ∧
    f0.offset = 0 ∧ f1.offset = 1 ∧ f2.offset = 2 ∧ f3.offset = 3 ∧ f4.offset = 4 ∧ f5.offset = 5 ∧
    P.cellsOf f0.type = 1 ∧ P.cellsOf f1.type = 1 ∧ P.cellsOf f2.type = 1 ∧ P.cellsOf f3.type = 1 ∧ P.cellsOf f4.type = 1 ∧ P.cellsOf f5.type = 32 ∧ fs.size = 6
theorem ord_ofT {t : TypeId} {W : World} {cs : List Value} {fuel : Nat} {d : DataW H} {ps : List MemPlace} (hT : OrdT P t) (hsz : cs.length = 37) (h : DataW.trod enc P W 0 (fun _ => true) true fuel t cs = some (d, ps)) :
    ∃ (j a i : Int) (u x : Value) (T L n : Bs), cs = ordC j a i u x n ∧ By [] W u T ∧ By [] W x L ∧ n.length = 32 ∧ T.length + L.length ≤ Rows.uptoBulk d ∧ (Lit.int .i64 j).wf = true ∧ (Lit.int .i64 a).wf = true ∧ (Lit.int .i64 i).wf = true := by
  obtain ⟨q, fs, f0, f1, f2, f3, f4, f5, a0, a1, a2, a3, a4, a5, a6, b0, b1, b2, b3, b4, b5, b6, b7, o0, o1, o2, o3, o4, o5, c0, c1, c2, c3, c4, c5, c6⟩ := hT.h
  exact ord_of a0 a1 a2 a3 a4 a5 a6 b0 b1 b2 b3 b4 b5 b6 b7 o0 o1 o2 o3 o4 o5 c0 c1 c2 c3 c4 c5 c6 hsz h
/-- AN ARGUMENT THAT IS AN ORDER -/
theorem open_order {t : TypeId} {fs : Array Field} {W : World} {base : Nat} {v : Value} {d : DataW H} {ps : List MemPlace} (hT : OrdT P t) (ht : P.underlying t = some (.struct fs)) (hct : P.cellsOf t = 37) (hval : Value.okWide P W .any base t v) (h : DataW.Trod enc P W 0 (fun _ => true) true t v d ps) :
    ∃ (j a i : Int) (u x : Value) (T L n : Bs), v = .agg (ordC j a i u x n).toArray ∧ By [] W u T ∧ By [] W x L ∧ n.length = 32 ∧ T.length + L.length ≤ Rows.uptoBulk d ∧ (Lit.int .i64 j).wf = true ∧ (Lit.int .i64 a).wf = true ∧ (Lit.int .i64 i).wf = true := by
  obtain ⟨cs, rfl, hsz⟩ := okWide_struct ht hval
  obtain ⟨fuel, h⟩ := h
  have hcells : (Value.agg cs).cells.toList = cs.toList := rfl
  rw [hcells] at h
  rw [hct] at hsz
  obtain ⟨j, a, i, u, x, T, L, n, e, h1, h2, h3, h4, h5, h6, h7⟩ := ord_ofT hT (by simpa using hsz) h
  refine ⟨j, a, i, u, x, T, L, n, ?_, h1, h2, h3, h4, h5, h6, h7⟩
  congr 1
  apply Array.ext'
  rw [e]
end
end Go.Proofs.YthhdilafnfcpbaaDoor
/- More arguments' readings: structs in a row; what a worker hears. -/
namespace Go.Proofs.YthhdilafnfcpbaaDoor
open Go Go.ChangeShapes Go.WideShapes Go.ChangeAt Go.RowKit
/-- the rows that are there -/
def rowsOf (gs : List Value) (ls : List Bs) : List Bs := (List.range gs.length).map fun i => ls.getD i []
theorem rowsOf_length (gs : List Value) (ls : List Bs) : (rowsOf gs ls).length = gs.length := by simp [rowsOf]
theorem rowsOf_rd {gs : List Value} {ls k : List Bs} {w : World} {v : Value} (hk : k = rowsOf gs ls) (hr : Rd [] w v gs.length 1 gs) (hb : ∀ i, i < gs.length → By [] w (gs.getD i (.slice none 0 0)) (ls.getD i [])) : RdR [] w v k := by
  subst hk
  refine ⟨gs, (rowsOf_length gs ls).symm, by rw [rowsOf_length]; exact hr, fun i hi => ?_⟩
  rw [rowsOf_length] at hi
  have e : (rowsOf gs ls).getD i [] = ls.getD i [] := by simp [rowsOf, List.getD, hi]
  rw [e]
  exact hb i hi
section
variable {H : Type} {enc : TypeId × Value → H} {P : Program}
/-- AN ARGUMENT OF STRUCTS IN A ROW -/
theorem open_structs {X : Type} {k : Nat} (c : X → List Value) (sz : X → Nat) {t e : TypeId} {W : World} {base : Nat} {v : Value} {d : DataW H} {ps : List MemPlace} (Pr : X → Prop) (hk0 : 0 < k) (ht : P.underlying t = some (.slice e)) (ue : P.cellsOf e = k) (hc : ∀ x, Pr x → (c x).length = k)
    (hel : ∀ (fuel : Nat) (cs : List Value) (x : DataW H × List MemPlace), cs.length = k → DataW.trod enc P W 0 (fun _ => true) true fuel e cs = some x → ∃ y, cs = c y ∧ Pr y ∧ sz y ≤ Rows.uptoBulk x.1)
    (hval : Value.okWide P W .any base t v) (h : DataW.Trod enc P W 0 (fun _ => true) true t v d ps) : ∃ xs : List X, Rd [] W v xs.length k (xs.map c).flatten ∧ (∀ x ∈ xs, Pr x ∧ sz x ≤ Rows.uptoBulk d) ∧ xs.length + 1 ≤ Rows.uptoBulk d := by
  obtain ⟨a, len, cap, rfl⟩ := okWide_slice ht hval
  obtain ⟨fuel, h⟩ := h
  have hcells : (Value.slice a len cap).cells.toList = [.slice a len cap] := rfl
  rw [hcells] at h
  rcases Deep.open_slice ht h with ⟨e1, e2⟩ | ⟨ad, len', cap', m, n, D, Pl, e1, hb, hl, hm, hmm, e2, hx⟩
  · cases e1
    cases e2
    exact ⟨[], ⟨by simp, none, 0, rfl, Nat.le_refl _, fun _ => ⟨rfl, rfl⟩, fun _ h => by cases h⟩, by simp, by simp [Rows.uptoBulk]⟩
  · cases e1
    cases e2
    simp only [if_true] at hmm
    subst hmm
    rw [ue] at hx
    have hR : ∀ i, i < m → ∃ y : X, (∀ j, j < k → W.cell? ((ad.add (i * k)).add j) = (c y)[j]?) ∧ Pr y ∧ sz y ≤ Rows.uptoBulk (D i) := fun i hi => by
      obtain ⟨cs', h1, h2⟩ := hx i hi
      obtain ⟨_, h3, h4⟩ := World.cells?_some h1
      obtain ⟨y, rfl, h5, h6⟩ := hel _ _ _ h3 h2
      exact ⟨y, fun j hj => h4 j hj, h5, h6⟩
    obtain ⟨xs, hxl, hxs⟩ : ∃ xs : List X, xs.length = m ∧ ∀ i (hi : i < xs.length), (∀ j, j < k → W.cell? ((ad.add (i * k)).add j) = (c xs[i])[j]?) ∧ Pr xs[i] ∧ sz xs[i] ≤ Rows.uptoBulk (D i) :=
      ⟨(List.finRange m).map fun i => Classical.choose (hR i.1 i.2), by simp, fun i hi => by
        have hi' : i < m := by simpa using hi
        have := Classical.choose_spec (hR i hi')
        simpa using this⟩
    obtain ⟨ys, hyl, hys⟩ : ∃ ys : List X, ys.length = len ∧ ∀ i (hi : i < ys.length), (∀ j, j < k → W.cell? ((ad.add (i * k)).add j) = (c ys[i])[j]?) ∧ Pr ys[i] ∧ sz ys[i] ≤ Rows.uptoBulk (D i) :=
      ⟨xs.take len, by simp; omega, fun i hi => by
        have := hxs i (by simp at hi; omega)
        simpa using this⟩
    have hcl : ∀ y ∈ ys, (c y).length = k := fun y hy => by
      obtain ⟨i, hi, rfl⟩ := List.getElem_of_mem hy
      exact hc _ (hys i hi).2.1
    have hfl := flat_length c hcl
    refine ⟨ys, ⟨hfl, some ad, m, by rw [hyl], by omega, fun h => (by cases h), fun ad' h' hm0 => ?_⟩, fun y hy => ?_, ?_⟩
    · cases h'
      have hlx : 0 < xs.length := by omega
      have h0 := (hxs 0 hlx).1 0 hk0
      have hc0 : (c xs[0]).length = k := hc _ (hxs 0 hlx).2.1
      rw [List.getElem?_eq_getElem (by omega)] at h0
      have e0 : (ad.add (0 * k)).add 0 = ad := by simp [Addr.add]
      rw [e0] at h0
      have hspot : ad.spot = none := by
        unfold World.cell? at h0
        split at h0
        · split at h0
          · cases h0
          · rename_i hs
            cases hq : ad.spot with
            | none => rfl
            | some s => rw [hq] at hs; exact absurd rfl hs
        · cases h0
      obtain ⟨b, off, sp⟩ := ad
      simp only at hspot
      subst hspot
      obtain ⟨arr, row, fr, harr⟩ : ∃ arr row fr, W.heap[b]? = some (.cells arr row fr) := by
        unfold World.cell? at h0
        split at h0
        · rename_i c el fr hq
          exact ⟨c, el, fr, hq⟩
        · cases h0
      have hcell : ∀ i (hi : i < xs.length) j, j < k → arr[off + i * k + j]? = (c xs[i])[j]? := fun i hi j hj => by
        have h1 := (hxs i hi).1 j hj
        rw [add_plain, add_plain] at h1
        simpa [World.cell?, harr] using h1
      have hcelly : ∀ i (hi : i < ys.length) j, j < k → arr[off + i * k + j]? = (c ys[i])[j]? := fun i hi j hj => by
        have h1 := (hys i hi).1 j hj
        rw [add_plain, add_plain] at h1
        simpa [World.cell?, harr] using h1
      refine ⟨rfl, by simp, arr, row, fr, harr, ?_, fun p hp => ?_⟩
      · have hm1 : m - 1 < xs.length := by omega
        have h1 := hcell (m - 1) hm1 (k - 1) (by omega)
        have h2 : (c xs[m - 1]).length = k := hc _ (hxs (m - 1) hm1).2.1
        rw [List.getElem?_eq_getElem (by omega)] at h1
        have := (Array.getElem?_eq_some_iff.1 h1).1
        have h3 : (m - 1) * k + k = m * k := by rw [← Nat.succ_mul]; congr 1; omega
        simp only
        omega
      · have hdk : p / k < ys.length := Nat.div_lt_of_lt_mul (by rw [Nat.mul_comm]; exact hp)
        have hmk : p % k < k := Nat.mod_lt _ hk0
        have h1 := hcelly (p / k) hdk (p % k) hmk
        have h2 := flat_at c hcl hdk
        have h5 : p / k * k + p % k = p := by rw [Nat.mul_comm]; exact Nat.div_add_mod p k
        rw [Nat.add_assoc, h5] at h1
        rw [← h2, List.getElem?_take, if_pos hmk, List.getElem?_drop, h5] at h1
        exact h1
    · obtain ⟨i, hi, rfl⟩ := List.getElem_of_mem hy
      refine ⟨(hys i hi).2.1, Nat.le_trans (hys i hi).2.2 ?_⟩
      have := bulk_part (H := H) (d := D i) (l := (List.range len).map D) (List.mem_map.2 ⟨i, List.mem_range.2 (by omega), rfl⟩)
      simp only [Rows.uptoBulk]
      omega
    · have := bulk_slice (H := H) ((List.range len).map D) ((List.range (m - len)).map fun j => D (len + j))
      rw [hyl]
      simpa using this
/-- AN ARGUMENT OF WHAT IS HEARD -/
theorem open_heard {t e : TypeId} {fs : Array Field} {f0 f1 f2 : Field} {W : World} {base : Nat} {v : Value} {d : DataW H} {ps : List MemPlace} (ht : P.underlying t = some (.slice e)) (ue : P.cellsOf e = 39) (he : P.underlying e = some (.struct fs)) (h0 : fs[0]? = some f0) (h1 : fs[1]? = some f1) (h2 : fs[2]? = some f2)
    (t0 : OrdT P f0.type) (t1 : P.underlying f1.type = some (.int .i64)) (t2 : P.underlying f2.type = some (.int .u8)) (o0 : f0.offset = 0) (o1 : f1.offset = 37) (o2 : f2.offset = 38) (c0 : P.cellsOf f0.type = 37) (c1 : P.cellsOf f1.type = 1) (c2 : P.cellsOf f2.type = 1) (hfs : fs.size = 3)
    (hval : Value.okWide P W .any base t v) (h : DataW.Trod enc P W 0 (fun _ => true) true t v d ps) (hb : Rows.uptoBulk d ≤ 1048576) : ∃ hs : List Heard, RdHd [] W v hs ∧ hs.length + 1 ≤ Rows.uptoBulk d := by
  have hel : ∀ (fuel : Nat) (cs : List Value) (x : DataW H × List MemPlace), cs.length = 39 → DataW.trod enc P W 0 (fun _ => true) true fuel e cs = some x → ∃ y : Heard, cs = cellsH y ∧ (By [] W y.u y.T ∧ By [] W y.x y.L ∧ y.n.length = 32) ∧ y.T.length + y.L.length ≤ Rows.uptoBulk x.1 := fun fuel cs x hcs hq => by
    obtain ⟨ys, m, _, e2, hl, hlen, hf⟩ := DataW.trod_struct he hq
    obtain ⟨x0, x1, x2, rfl⟩ : ∃ x0 x1 x2, ys = [x0, x1, x2] := by
      rw [hfs] at hlen
      match ys, hlen with
      | [c0, c1, c2], _ => exact ⟨c0, c1, c2, rfl⟩
    have g0 := hf 0 f0 h0
    have g1 := hf 1 f1 h1
    have g2 := hf 2 f2 h2
    rw [c0, o0] at g0
    rw [c1, o1] at g1
    rw [c2, o2] at g2
    simp only [List.getElem?_cons_zero, List.getElem?_cons_succ, List.drop_zero] at g0 g1 g2
    obtain ⟨j, a, i, u, x', T, L, n, e0, hu, hx', hn, hb0, _, _, _⟩ := ord_ofT (d := x0.1) (ps := x0.2) t0 (by simp; omega) g0
    obtain ⟨at_, e1, _, _⟩ := DataW.trod_int t1 g1
    obtain ⟨sp, e3, _, hw⟩ := DataW.trod_int t2 g2
    obtain ⟨q, hsp⟩ : ∃ q, (Value.int .u8 sp) = B8 q := ⟨_, byteOf_cell hw⟩
    refine ⟨⟨j, a, i, u, x', T, L, n, at_, q⟩, ?_, ⟨hu, hx', hn⟩, ?_⟩
    · rw [← List.take_append_drop 37 cs, e0, cellsH]
      congr 1
      have d1 : cs.drop 37 = (cs.drop 37).take 1 ++ ((cs.drop 37).drop 1) := (List.take_append_drop 1 _).symm
      have d2 : (cs.drop 37).drop 1 = (cs.drop 38).take 1 := by rw [List.drop_drop, List.take_of_length_le (by simp; omega)]
      rw [d1, d2, e1, e3, hsp]
      rfl
    · cases e2
      simp only [Rows.uptoBulk, Rows.uptoBulkAll, List.map_cons]
      omega
  obtain ⟨xs, hr, hx, hl⟩ := open_structs (P := P) cellsH (fun e => e.T.length + e.L.length) (fun e : Heard => By [] W e.u e.T ∧ By [] W e.x e.L ∧ e.n.length = 32) (by decide) ht ue (fun x hx => cellsH_length hx.2.2) hel hval h
  exact ⟨xs, ⟨hr, fun e he => ⟨(hx e he).1.1, (hx e he).1.2.1, (hx e he).1.2.2, Nat.le_trans (hx e he).2 hb⟩⟩, hl⟩
end
end Go.Proofs.YthhdilafnfcpbaaDoor
