/- More arguments' readings: an array of words. -/
import Derived.Test.YtipjpbfledddaaaDoorNa
namespace Go.Proofs.YtipjpbfledddaaaDoor
open Go Go.ChangeShapes Go.WideShapes Go.ChangeAt Go.RowKit
section
variable {H : Type} {enc : TypeId × Value → H} {P : Program}
def wordOf : Value → BitVec 32
  | .int _ z => BitVec.ofInt 32 z
  | _ => 0#32
theorem wordOf_cell {z : Int} (h : (Lit.int .u32 z).wf = true) : (Value.int .u32 z) = U32 (wordOf (.int .u32 z)) := by
  simp only [Lit.wf, Bool.and_eq_true, decide_eq_true_eq] at h
  obtain ⟨h1, h2⟩ := h
  have h1 : 0 ≤ z := h1
  have h2 : z ≤ 4294967295 := h2
  obtain ⟨n, rfl⟩ : ∃ n : Nat, z = n := ⟨z.toNat, by omega⟩
  have : n < 4294967296 := by omega
  simp only [U32, wordOf, BitVec.ofInt_natCast, BitVec.toNat_ofNat]
  rw [Nat.mod_eq_of_lt (by simpa using this)]

/-- AN ARGUMENT OF WORDS -/
theorem open_words {t e : TypeId} {n : Nat} {W : World} {base : Nat} {v : Value} {d : DataW H} {ps : List MemPlace} (ht : P.underlying t = some (.array n e)) (he : P.underlying e = some (.int .u32)) (hc : P.cellsOf e = 1) (hct : P.cellsOf t = n)
    (hval : Value.okWide P W .any base t v) (h : DataW.Trod enc P W 0 (fun _ => true) true t v d ps) : ∃ s : List (BitVec 32), s.length = n ∧ v = .agg (s.map U32).toArray := by
  simp only [Value.okWide, ht] at hval
  obtain ⟨cs, rfl, hsz, _⟩ := hval
  obtain ⟨fuel, h⟩ := h
  have hcells : (Value.agg cs).cells.toList = cs.toList := rfl
  rw [hcells] at h
  obtain ⟨xs, m, _, ex, _, hl, hel⟩ := DataW.trod_array ht h
  refine ⟨cs.toList.map wordOf, by simp [hsz, hct], ?_⟩
  congr 1
  apply Array.ext'
  simp only [List.map_map]
  apply List.ext_getElem?
  intro i
  by_cases hi : i < n
  · have hE := hel i hi
    rw [hc, Nat.mul_one, List.getElem?_eq_getElem (by omega)] at hE
    obtain ⟨z, e1, e2, hw⟩ := DataW.trod_int he hE
    have h1 : cs.toList[i]? = some (.int .u32 z) := by
      have h0 : ((cs.toList.drop i).take 1)[0]? = some (.int .u32 z) := by rw [e1]; rfl
      simpa using h0
    rw [List.getElem?_map, h1]
    simp only [Option.map_some, Function.comp]
    exact congrArg some (wordOf_cell hw)
  · rw [List.getElem?_eq_none (by simp [hsz, hct]; omega), List.getElem?_eq_none (by simp [hsz, hct]; omega)]

theorem bulk_part {d : DataW H} {l : List (DataW H)} (h : d ∈ l) : Rows.uptoBulk d ≤ Rows.uptoBulkAll l := by
  induction l with
  | nil => cases h
  | cons x r ih =>
    simp only [Rows.uptoBulkAll]
    cases List.mem_cons.1 h with
    | inl e => subst e; omega
    | inr e => have := ih e; omega

/-- bytes out of a cell that holds a slice -/
theorem rows_bytes {q : TypeId} {t : TypeId} {W : World} {v : Value} {d : DataW H} {ps : List MemPlace} {n : Nat} (ht : P.underlying t = some (.slice q)) (hq : P.underlying q = some (.int .u8)) (hc : P.cellsOf q = 1)
    (h : DataW.trod enc P W 0 (fun _ => true) true n t [v] = some (d, ps)) : ∃ l : Bs, By [] W v l := by
  rcases Deep.open_slice1 ht hc h with ⟨e1, e2⟩ | ⟨ad, len, cap, m, n', V, D, Pl, e1, hb, hl, hm, hmm, e2, hx⟩
  · cases e1
    exact ⟨[], rfl, none, 0, rfl, Nat.le_refl _, fun _ => ⟨rfl, rfl⟩, fun _ h => by cases h⟩
  · cases e1
    simp only [if_true] at hmm
    subst hmm
    have hV : ∀ i, i < m → V i = B8 (byteOf (V i)) := fun i hi => by
      obtain ⟨z, hz, _, hw⟩ := DataW.trod_int hq (hx i hi).2
      have : V i = .int .u8 z := by simpa using hz
      rw [this]
      exact byteOf_cell hw
    refine ⟨(List.range len).map fun i => byteOf (V i), by simp, some ad, m, by simp, by simpa using hl, fun h => (by cases h), fun ad' h' hm0 => ?_⟩
    cases h'
    have h0 := (hx 0 hm0).1
    have hspot : ad.spot = none := by
      have e : ad.add 0 = ad := by simp [Addr.add]
      rw [e] at h0
      unfold World.cell? at h0
      split at h0
      · split at h0
        · cases h0
        · rename_i hs
          cases hq : ad.spot with
          | none => rfl
          | some s => rw [hq] at hs; exact absurd rfl hs
      · cases h0
    have hadd : ∀ i, ad.add i = ⟨ad.block, ad.off + i, none⟩ := fun i => by
      cases ad
      simp only at hspot
      subst hspot
      exact add_plain _ _ _
    obtain ⟨arr, row, fr, harr⟩ : ∃ arr row fr, W.heap[ad.block]? = some (.cells arr row fr) := by
      rw [hadd] at h0
      unfold World.cell? at h0
      split at h0
      · rename_i c el fr hq
        exact ⟨c, el, fr, hq⟩
      · cases h0
    have hcell : ∀ i, i < m → arr[ad.off + i]? = some (V i) := fun i hi => by
      have h1 := (hx i hi).1
      rw [hadd] at h1
      simpa [World.cell?, harr] using h1
    refine ⟨hspot, by simp, arr, row, fr, harr, ?_, fun i hi => ?_⟩
    · have := (Array.getElem?_eq_some_iff.1 (hcell (m - 1) (by omega))).1
      omega
    · have hi' : i < len := by simpa using hi
      rw [hcell i (by omega), hV i (by omega)]
      simp [hi', byteOf, B8]

/-- AN ARGUMENT OF ROWS OF BYTES -/
theorem open_rows {t e q : TypeId} {W : World} {base : Nat} {v : Value} {d : DataW H} {ps : List MemPlace} (ht : P.underlying t = some (.slice e)) (he : P.underlying e = some (.slice q)) (hq : P.underlying q = some (.int .u8)) (hc : P.cellsOf e = 1) (hcq : P.cellsOf q = 1)
    (hval : Value.okWide P W .any base t v) (h : DataW.Trod enc P W 0 (fun _ => true) true t v d ps) :
    ∃ (hs : List Value) (ls : List Bs), Rd [] W v hs.length 1 hs ∧ (∀ i, i < hs.length → By [] W (hs.getD i (.slice none 0 0)) (ls.getD i [])) ∧ hs.length + 1 ≤ Rows.uptoBulk d := by
  obtain ⟨a, len, cap, rfl⟩ := okWide_slice ht hval
  obtain ⟨fuel, h⟩ := h
  have hcells : (Value.slice a len cap).cells.toList = [.slice a len cap] := rfl
  rw [hcells] at h
  rcases Deep.open_slice1 ht hc h with ⟨e1, e2⟩ | ⟨ad, len', cap', m, n, V, D, Pl, e1, hb, hl, hm, hmm, e2, hx⟩
  · cases e1
    cases e2
    exact ⟨[], [], ⟨rfl, none, 0, rfl, Nat.le_refl _, fun _ => ⟨rfl, rfl⟩, fun _ h => by cases h⟩, fun i hi => (by cases hi), by simp [Rows.uptoBulk]⟩
  · cases e1
    cases e2
    simp only [if_true] at hmm
    subst hmm
    have hR : ∀ i, i < m → ∃ l : Bs, By [] W (V i) l := fun i hi => rows_bytes he hq hcq (hx i hi).2
    refine ⟨(List.range len).map V, (List.range len).map fun i => if hi : i < m then Classical.choose (hR i hi) else [], ?_, fun i hi => ?_, ?_⟩
    · refine ⟨by simp, some ad, m, by simp, by simpa using hl, fun h => (by cases h), fun ad' h' hm0 => ?_⟩
      cases h'
      have h0 := (hx 0 hm0).1
      have hspot : ad.spot = none := by
        have e : ad.add 0 = ad := by simp [Addr.add]
        rw [e] at h0
        unfold World.cell? at h0
        split at h0
        · split at h0
          · cases h0
          · rename_i hs
            cases hq : ad.spot with
            | none => rfl
            | some s => rw [hq] at hs; exact absurd rfl hs
        · cases h0
      have hadd : ∀ i, ad.add i = ⟨ad.block, ad.off + i, none⟩ := fun i => by
        cases ad
        simp only at hspot
        subst hspot
        exact add_plain _ _ _
      obtain ⟨arr, row, fr, harr⟩ : ∃ arr row fr, W.heap[ad.block]? = some (.cells arr row fr) := by
        rw [hadd] at h0
        unfold World.cell? at h0
        split at h0
        · rename_i c el fr hq
          exact ⟨c, el, fr, hq⟩
        · cases h0
      have hcell : ∀ i, i < m → arr[ad.off + i]? = some (V i) := fun i hi => by
        have h1 := (hx i hi).1
        rw [hadd] at h1
        simpa [World.cell?, harr] using h1
      refine ⟨hspot, by simp, arr, row, fr, harr, ?_, fun i hi => ?_⟩
      · have := (Array.getElem?_eq_some_iff.1 (hcell (m - 1) (by omega))).1
        omega
      · have hi' : i < len := by simpa using hi
        rw [hcell i (by omega)]
        simp [hi']
    · have hi' : i < len := by simpa using hi
      have him : i < m := by omega
      have := Classical.choose_spec (hR i him)
      simpa [List.getD, hi', him] using this
    · have := bulk_slice (H := H) ((List.range len).map D) ((List.range (m - len)).map fun j => D (len + j))
      simpa using this
end
end Go.Proofs.YtipjpbfledddaaaDoor
