/- More arguments' readings: structs of whole numbers. -/
import Derived.Test.YtokcbfklogjnfaaDoorNa
import Derived.Test.YtokcbfklogjnfaaDoorMs
namespace Go.Proofs.YtokcbfklogjnfaaDoor
open Go Go.ChangeShapes Go.WideShapes Go.ChangeAt Go.RowKit
section
variable {H : Type} {enc : TypeId × Value → H} {P : Program}
theorem intF_get : ∀ {fs : List Field} {k i : Nat} {f : Field}, intF P k fs = true → fs[i]? = some f → P.underlying f.type = some (.int .i64) ∧ f.offset = k + i
  | [], _, _, _, _, h => by simp at h
  | g :: fs, k, i, f, h, hi => by
    simp only [intF, Bool.and_eq_true, bne_iff_ne, ne_eq, beq_iff_eq] at h
    obtain ⟨⟨⟨h1, h2⟩, h3⟩, h4⟩ := h
    cases i with
    | zero =>
      simp only [List.getElem?_cons_zero, Option.some.injEq] at hi
      subst hi
      refine ⟨?_, by omega⟩
      revert h1
      split
      · intro _; assumption
      · intro h; cases h
    | succ i =>
      simp only [List.getElem?_cons_succ] at hi
      have := intF_get (k := k + 1) h4 hi
      exact ⟨this.1, by omega⟩
def intOf : Value → Int
  | .int _ z => z
  | _ => 0
/-- AN ARGUMENT THAT IS A STRUCT OF WHOLE NUMBERS -/
theorem open_ints {t : TypeId} {fs : Array Field} {n : Nat} {W : World} {base : Nat} {v : Value} {d : DataW H} {ps : List MemPlace} (ht : P.underlying t = some (.struct fs)) (hi : intF P 0 fs.toList = true) (hn : fs.toList.length = n) (hct : P.cellsOf t = n)
    (hc1 : (fs.toList.all fun f => P.cellsOf f.type == 1) = true)
    (hval : Value.okWide P W .any base t v) (h : DataW.Trod enc P W 0 (fun _ => true) true t v d ps) : ∃ ts : List Int, ts.length = n ∧ v = .agg (ts.map I).toArray ∧ ∀ z ∈ ts, (Lit.int .i64 z).wf = true := by
  obtain ⟨cs, rfl, hsz⟩ := okWide_struct ht hval
  obtain ⟨fuel, h⟩ := h
  have hcells : (Value.agg cs).cells.toList = cs.toList := rfl
  rw [hcells] at h
  obtain ⟨xs, m, _, _, hl, hlen, hf⟩ := DataW.trod_struct ht h
  have hcell : ∀ i, i < n → ∃ z, cs.toList[i]? = some (I z) ∧ (Lit.int .i64 z).wf = true := fun i hin => by
    have hfi : fs.toList[i]? = some fs.toList[i] := List.getElem?_eq_getElem (by omega)
    obtain ⟨g1, g2⟩ := intF_get hi hfi
    have g3 : P.cellsOf fs.toList[i].type = 1 := by
      have := List.all_eq_true.1 hc1 _ (List.getElem_mem (l := fs.toList) (n := i) (by omega))
      simpa using this
    have hE := hf i fs.toList[i] (by simp)
    have hx : i < xs.length := by rw [hlen]; simp at hn; omega
    rw [g2, g3, Nat.zero_add, List.getElem?_eq_getElem hx] at hE
    obtain ⟨z, e1, _, hw⟩ := DataW.trod_int g1 hE
    refine ⟨z, ?_, hw⟩
    have h0 : ((cs.toList.drop i).take 1)[0]? = some (I z) := by rw [e1]; rfl
    simpa using h0
  refine ⟨cs.toList.map intOf, by simp [hsz, hct], ?_, fun z hz => ?_⟩
  · congr 1
    apply Array.ext'
    simp only [List.map_map]
    apply List.ext_getElem?
    intro i
    by_cases hin : i < n
    · obtain ⟨z, h1, _⟩ := hcell i hin
      rw [List.getElem?_map, h1]
      rfl
    · rw [List.getElem?_eq_none (by simp [hsz, hct]; omega), List.getElem?_eq_none (by simp [hsz, hct]; omega)]
  · obtain ⟨u, hu, rfl⟩ := List.mem_map.1 hz
    obtain ⟨i, hi2, hui⟩ := List.mem_iff_getElem.1 hu
    have hin : i < n := by simp [hsz, hct] at hi2; exact hi2
    obtain ⟨z, h1, h2⟩ := hcell i hin
    rw [List.getElem?_eq_getElem hi2, hui] at h1
    simp only [Option.some.injEq] at h1
    subst h1
    exact h2
end
end Go.Proofs.YtokcbfklogjnfaaDoor
