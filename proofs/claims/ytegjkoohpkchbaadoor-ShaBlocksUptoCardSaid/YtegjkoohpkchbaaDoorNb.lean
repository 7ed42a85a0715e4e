/- More arguments' readings: an array of words. -/
import Derived.Test.YtegjkoohpkchbaaDoorNa
namespace Go.Proofs.YtegjkoohpkchbaaDoor
open Go Go.ChangeShapes Go.WideShapes Go.ChangeAt Go.RowKit
section
variable {H : Type} {enc : TypeId × Value → H} {P : Program}
def wordOf : Value → BitVec 32
  | .int _ z => BitVec.ofInt 32 z
  | _ => 0#32
theorem wordOf_cell {z : Int} (h : (Lit.int .u32 z).wf = true) : (Value.int .u32 z) = U32 (wordOf (.int .u32 z)) := by
  simp only [Lit.wf, Bool.and_eq_true, decide_eq_true_eq] at h
  obtain ⟨h1, h2⟩ := h
  have h1 : 0 ≤ z := h1
  have h2 : z ≤ 4294967295 := h2
  obtain ⟨n, rfl⟩ : ∃ n : Nat, z = n := ⟨z.toNat, by omega⟩
  have : n < 4294967296 := by omega
  simp only [U32, wordOf, BitVec.ofInt_natCast, BitVec.toNat_ofNat]
  rw [Nat.mod_eq_of_lt (by simpa using this)]

/-- AN ARGUMENT OF WORDS -/
theorem open_words {t e : TypeId} {n : Nat} {W : World} {base : Nat} {v : Value} {d : DataW H} {ps : List MemPlace} (ht : P.underlying t = some (.array n e)) (he : P.underlying e = some (.int .u32)) (hc : P.cellsOf e = 1) (hct : P.cellsOf t = n)
    (hval : Value.okWide P W .any base t v) (h : DataW.Trod enc P W 0 (fun _ => true) true t v d ps) : ∃ s : List (BitVec 32), s.length = n ∧ v = .agg (s.map U32).toArray := by
  simp only [Value.okWide, ht] at hval
  obtain ⟨cs, rfl, hsz, _⟩ := hval
  obtain ⟨fuel, h⟩ := h
  have hcells : (Value.agg cs).cells.toList = cs.toList := rfl
  rw [hcells] at h
  obtain ⟨xs, m, _, ex, _, hl, hel⟩ := DataW.trod_array ht h
  refine ⟨cs.toList.map wordOf, by simp [hsz, hct], ?_⟩
  congr 1
  apply Array.ext'
  simp only [List.map_map]
  apply List.ext_getElem?
  intro i
  by_cases hi : i < n
  · have hE := hel i hi
    rw [hc, Nat.mul_one, List.getElem?_eq_getElem (by omega)] at hE
    obtain ⟨z, e1, e2, hw⟩ := DataW.trod_int he hE
    have h1 : cs.toList[i]? = some (.int .u32 z) := by
      have h0 : ((cs.toList.drop i).take 1)[0]? = some (.int .u32 z) := by rw [e1]; rfl
      simpa using h0
    rw [List.getElem?_map, h1]
    simp only [Option.map_some, Function.comp]
    exact congrArg some (wordOf_cell hw)
  · rw [List.getElem?_eq_none (by simp [hsz, hct]; omega), List.getElem?_eq_none (by simp [hsz, hct]; omega)]
end
end Go.Proofs.YtegjkoohpkchbaaDoor
