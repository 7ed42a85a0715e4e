/- More arguments' readings: digests in a row. -/
import Derived.Test.YtipjpbfledddaaaDoorNa
import Derived.Test.YtipjpbfledddaaaDoorNc
import Derived.Test.YtipjpbfledddaaaDoorMt
namespace Go.Proofs.YtipjpbfledddaaaDoor
open Go Go.ChangeShapes Go.WideShapes Go.ChangeAt Go.RowKit
section
variable {H : Type} {enc : TypeId × Value → H} {P : Program}
theorem trod_array8 {e q : TypeId} {W : World} {fuel : Nat} {cs : List Value} {x : DataW H × List MemPlace} (he : P.underlying e = some (.array 32 q)) (hq : P.underlying q = some (.int .u8)) (hcq : P.cellsOf q = 1) (hlen : cs.length = 32)
    (h : DataW.trod enc P W 0 (fun _ => true) true fuel e cs = some x) : ∃ s : Bs, s.length = 32 ∧ cs = s.map B8 := by
  obtain ⟨xs, m, _, ex, _, hl, hel⟩ := DataW.trod_array he h
  refine ⟨cs.map byteOf, by simp [hlen], ?_⟩
  rw [List.map_map]
  apply List.ext_getElem?
  intro i
  by_cases hi : i < 32
  · have hE := hel i hi
    rw [hcq, Nat.mul_one, List.getElem?_eq_getElem (by omega)] at hE
    obtain ⟨z, e1, e2, hw⟩ := DataW.trod_int hq hE
    have h1 : cs[i]? = some (.int .u8 z) := by
      have h0 : ((cs.drop i).take 1)[0]? = some (.int .u8 z) := by rw [e1]; rfl
      simpa using h0
    rw [List.getElem?_map, h1]
    simp only [Option.map_some, Function.comp]
    exact congrArg some (byteOf_cell hw)
  · rw [List.getElem?_eq_none (by omega), List.getElem?_eq_none (by simp; omega)]

/-- AN ARGUMENT OF DIGESTS IN A ROW -/
theorem open_digs {t e q : TypeId} {W : World} {base : Nat} {v : Value} {d : DataW H} {ps : List MemPlace} (ht : P.underlying t = some (.slice e)) (he : P.underlying e = some (.array 32 q)) (hq : P.underlying q = some (.int .u8)) (hce : P.cellsOf e = 32) (hcq : P.cellsOf q = 1)
    (hval : Value.okWide P W .any base t v) (h : DataW.Trod enc P W 0 (fun _ => true) true t v d ps) : ∃ ds : List Bs, Dg ds ∧ RdD [] W v ds ∧ ds.length + 1 ≤ Rows.uptoBulk d := by
  obtain ⟨a, len, cap, rfl⟩ := okWide_slice ht hval
  obtain ⟨fuel, h⟩ := h
  have hcells : (Value.slice a len cap).cells.toList = [.slice a len cap] := rfl
  rw [hcells] at h
  rcases Deep.open_slice ht h with ⟨e1, e2⟩ | ⟨ad, len', cap', m, n, D, Pl, e1, hb, hl, hm, hmm, e2, hx⟩
  · cases e1
    cases e2
    exact ⟨[], Dg.nil, ⟨rfl, none, 0, rfl, Nat.le_refl _, fun _ => ⟨rfl, rfl⟩, fun _ h => by cases h⟩, by simp [Rows.uptoBulk]⟩
  · cases e1
    cases e2
    simp only [if_true] at hmm
    subst hmm
    rw [hce] at hx
    have hR : ∀ i, i < m → ∃ s : Bs, s.length = 32 ∧ ∀ j, j < 32 → W.cell? ((ad.add (i * 32)).add j) = (s.map B8)[j]? := fun i hi => by
      obtain ⟨cs', h1, h2⟩ := hx i hi
      obtain ⟨_, h3, h4⟩ := World.cells?_some h1
      obtain ⟨s, h5, rfl⟩ := trod_array8 he hq hcq h3 h2
      exact ⟨s, h5, h4⟩
    obtain ⟨f, hf⟩ : ∃ f : Nat → Bs, ∀ i, i < m → (f i).length = 32 ∧ ∀ j, j < 32 → W.cell? ((ad.add (i * 32)).add j) = ((f i).map B8)[j]? :=
      ⟨fun i => if hi : i < m then Classical.choose (hR i hi) else [], fun i hi => by simp only [dif_pos hi]; exact Classical.choose_spec (hR i hi)⟩
    have hD : Dg ((List.range len).map f) := fun x hx => by
      obtain ⟨i, hi, rfl⟩ := List.mem_map.1 hx
      exact (hf i (by have := List.mem_range.1 hi; omega)).1
    refine ⟨(List.range len).map f, hD, ⟨by rw [dc_length hD], some ad, m, by simp, by simpa using hl, fun h => (by cases h), fun ad' h' hm0 => ?_⟩, ?_⟩
    · cases h'
      have h0 : W.cell? ((ad.add (0 * 32)).add 0) = ((f 0).map B8)[0]? := (hf 0 hm0).2 0 (by decide)
      have hl0 := (hf 0 hm0).1
      have e0 : (ad.add (0 * 32)).add 0 = ad := by simp [Addr.add]
      rw [e0, List.getElem?_map, List.getElem?_eq_getElem (by omega)] at h0
      simp only [Option.map_some] at h0
      have hspot : ad.spot = none := by
        unfold World.cell? at h0
        split at h0
        · split at h0
          · cases h0
          · rename_i hs
            cases hq : ad.spot with
            | none => rfl
            | some s => rw [hq] at hs; exact absurd rfl hs
        · cases h0
      obtain ⟨b, off, sp⟩ := ad
      simp only at hspot
      subst hspot
      obtain ⟨arr, row, fr, harr⟩ : ∃ arr row fr, W.heap[b]? = some (.cells arr row fr) := by
        unfold World.cell? at h0
        split at h0
        · rename_i c el fr hq
          exact ⟨c, el, fr, hq⟩
        · cases h0
      have hcell : ∀ i j, i < m → j < 32 → arr[off + i * 32 + j]? = ((f i).map B8)[j]? := fun i j hi hj => by
        have h1 := (hf i hi).2 j hj
        rw [add_plain, add_plain] at h1
        simpa [World.cell?, harr] using h1
      refine ⟨rfl, by simp, arr, row, fr, harr, ?_, fun i hi => ?_⟩
      · have h1 := hcell (m - 1) 31 (by omega) (by decide)
        have h2 := (hf (m - 1) (by omega)).1
        rw [List.getElem?_map, List.getElem?_eq_getElem (by omega)] at h1
        have := (Array.getElem?_eq_some_iff.1 h1).1
        simp only
        omega
      · have hi' : i < len * 32 := by simpa using hi
        have hq1 : i / 32 < len := by omega
        have h1 := hcell (i / 32) (i % 32) (by omega) (Nat.mod_lt _ (by decide))
        have h2 := dc_at hD (i := i / 32) (by simpa using hq1)
        have h3 : ((List.range len).map f).getD (i / 32) [] = f (i / 32) := by simp [List.getD, hq1]
        rw [h3] at h2
        have h4 : ((dc ((List.range len).map f)).drop (i / 32 * 32)).take 32 = (f (i / 32)).map B8 := h2
        rw [← h4, List.getElem?_take, if_pos (Nat.mod_lt _ (by decide)), List.getElem?_drop] at h1
        have h5 : i / 32 * 32 + i % 32 = i := by omega
        rw [h5, Nat.add_assoc, h5] at h1
        exact h1
    · have := bulk_slice (H := H) ((List.range len).map D) ((List.range (m - len)).map fun j => D (len + j))
      simpa using this
theorem i64_le {n : Int} (h : (Lit.int .i64 n).wf = true) : n ≤ 9223372036854775807 := by
  simp only [Lit.wf, Bool.and_eq_true, decide_eq_true_eq] at h
  exact h.2
end
end Go.Proofs.YtipjpbfledddaaaDoor
