/- More arguments' readings: an array of bytes. -/
import Derived.Test.YtipjpbfledddaaaDoorNa
namespace Go.Proofs.YtipjpbfledddaaaDoor
open Go Go.ChangeShapes Go.WideShapes Go.ChangeAt Go.RowKit
section
variable {H : Type} {enc : TypeId × Value → H} {P : Program}
/-- AN ARGUMENT THAT IS AN ARRAY OF BYTES -/
theorem open_array8 {t e : TypeId} {n : Nat} {W : World} {base : Nat} {v : Value} {d : DataW H} {ps : List MemPlace} (ht : P.underlying t = some (.array n e)) (he : P.underlying e = some (.int .u8)) (hc : P.cellsOf e = 1) (hct : P.cellsOf t = n)
    (hval : Value.okWide P W .any base t v) (h : DataW.Trod enc P W 0 (fun _ => true) true t v d ps) : ∃ s : Bs, s.length = n ∧ v = .agg (s.map B8).toArray := by
  simp only [Value.okWide, ht] at hval
  obtain ⟨cs, rfl, hsz, _⟩ := hval
  obtain ⟨fuel, h⟩ := h
  have hcells : (Value.agg cs).cells.toList = cs.toList := rfl
  rw [hcells] at h
  obtain ⟨xs, m, _, ex, _, hl, hel⟩ := DataW.trod_array ht h
  refine ⟨cs.toList.map byteOf, by simp [hsz, hct], ?_⟩
  congr 1
  apply Array.ext'
  simp only [List.map_map]
  apply List.ext_getElem?
  intro i
  by_cases hi : i < n
  · have hE := hel i hi
    rw [hc, Nat.mul_one, List.getElem?_eq_getElem (by omega)] at hE
    obtain ⟨z, e1, e2, hw⟩ := DataW.trod_int he hE
    have h1 : cs.toList[i]? = some (.int .u8 z) := by
      have h0 : ((cs.toList.drop i).take 1)[0]? = some (.int .u8 z) := by rw [e1]; rfl
      simpa using h0
    rw [List.getElem?_map, h1]
    simp only [Option.map_some, Function.comp]
    exact congrArg some (byteOf_cell hw)
  · rw [List.getElem?_eq_none (by simp [hsz, hct]; omega), List.getElem?_eq_none (by simp [hsz, hct]; omega)]
end
end Go.Proofs.YtipjpbfledddaaaDoor
