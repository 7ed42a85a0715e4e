/- More arguments' readings: signatures. -/
import Derived.Test.YtipjpbfledddaaaDoorNd
namespace Go.Proofs.YtipjpbfledddaaaDoor
open Go Go.ChangeShapes Go.WideShapes Go.ChangeAt Go.RowKit
section
variable {H : Type} {enc : TypeId × Value → H} {P : Program}
/-- digests out of a cell that holds a slice -/
theorem digs_of {t e q : TypeId} {W : World} {cs : List Value} {d : DataW H} {ps : List MemPlace} {fuel : Nat} (ht : P.underlying t = some (.slice e)) (he : P.underlying e = some (.array 32 q)) (hq : P.underlying q = some (.int .u8)) (hce : P.cellsOf e = 32) (hcq : P.cellsOf q = 1)
    (h : DataW.trod enc P W 0 (fun _ => true) true fuel t cs = some (d, ps)) : ∃ (v : Value) (ds : List Bs), cs = [v] ∧ Dg ds ∧ RdD [] W v ds ∧ ds.length + 1 ≤ Rows.uptoBulk d := by
  have hv : ∃ a len cap, cs = [.slice a len cap] := by
    rcases Deep.open_slice ht h with ⟨e1, _⟩ | ⟨ad, len, cap, m, n, D, Pl, e1, _⟩
    · exact ⟨_, _, _, e1⟩
    · exact ⟨_, _, _, e1⟩
  obtain ⟨a, len, cap, rfl⟩ := hv
  rcases Deep.open_slice ht h with ⟨e1, e2⟩ | ⟨ad, len', cap', m, n, D, Pl, e1, hb, hl, hm, hmm, e2, hx⟩
  · cases e1
    cases e2
    exact ⟨_, [], rfl, Dg.nil, ⟨rfl, none, 0, rfl, Nat.le_refl _, fun _ => ⟨rfl, rfl⟩, fun _ h => by cases h⟩, by simp [Rows.uptoBulk]⟩
  · cases e1
    cases e2
    simp only [if_true] at hmm
    subst hmm
    rw [hce] at hx
    have hR : ∀ i, i < m → ∃ s : Bs, s.length = 32 ∧ ∀ j, j < 32 → W.cell? ((ad.add (i * 32)).add j) = (s.map B8)[j]? := fun i hi => by
      obtain ⟨cs', h1, h2⟩ := hx i hi
      obtain ⟨_, h3, h4⟩ := World.cells?_some h1
      obtain ⟨s, h5, rfl⟩ := trod_array8 he hq hcq h3 h2
      exact ⟨s, h5, h4⟩
    obtain ⟨f, hf⟩ : ∃ f : Nat → Bs, ∀ i, i < m → (f i).length = 32 ∧ ∀ j, j < 32 → W.cell? ((ad.add (i * 32)).add j) = ((f i).map B8)[j]? :=
      ⟨fun i => if hi : i < m then Classical.choose (hR i hi) else [], fun i hi => by simp only [dif_pos hi]; exact Classical.choose_spec (hR i hi)⟩
    have hD : Dg ((List.range len).map f) := fun x hx => by
      obtain ⟨i, hi, rfl⟩ := List.mem_map.1 hx
      exact (hf i (by have := List.mem_range.1 hi; omega)).1
    refine ⟨_, (List.range len).map f, rfl, hD, ⟨by rw [dc_length hD], some ad, m, by simp, by simpa using hl, fun h => (by cases h), fun ad' h' hm0 => ?_⟩, ?_⟩
    · cases h'
      have h0 : W.cell? ((ad.add (0 * 32)).add 0) = ((f 0).map B8)[0]? := (hf 0 hm0).2 0 (by decide)
      have hl0 := (hf 0 hm0).1
      have e0 : (ad.add (0 * 32)).add 0 = ad := by simp [Addr.add]
      rw [e0, List.getElem?_map, List.getElem?_eq_getElem (by omega)] at h0
      simp only [Option.map_some] at h0
      have hspot : ad.spot = none := by
        unfold World.cell? at h0
        split at h0
        · split at h0
          · cases h0
          · rename_i hs
            cases hq : ad.spot with
            | none => rfl
            | some s => rw [hq] at hs; exact absurd rfl hs
        · cases h0
      obtain ⟨b, off, sp⟩ := ad
      simp only at hspot
      subst hspot
      obtain ⟨arr, row, fr, harr⟩ : ∃ arr row fr, W.heap[b]? = some (.cells arr row fr) := by
        unfold World.cell? at h0
        split at h0
        · rename_i c el fr hq
          exact ⟨c, el, fr, hq⟩
        · cases h0
      have hcell : ∀ i j, i < m → j < 32 → arr[off + i * 32 + j]? = ((f i).map B8)[j]? := fun i j hi hj => by
        have h1 := (hf i hi).2 j hj
        rw [add_plain, add_plain] at h1
        simpa [World.cell?, harr] using h1
      refine ⟨rfl, by simp, arr, row, fr, harr, ?_, fun i hi => ?_⟩
      · have h1 := hcell (m - 1) 31 (by omega) (by decide)
        have h2 := (hf (m - 1) (by omega)).1
        rw [List.getElem?_map, List.getElem?_eq_getElem (by omega)] at h1
        have := (Array.getElem?_eq_some_iff.1 h1).1
        simp only
        omega
      · have hi' : i < len * 32 := by simpa using hi
        have hq1 : i / 32 < len := by omega
        have h1 := hcell (i / 32) (i % 32) (by omega) (Nat.mod_lt _ (by decide))
        have h2 := dc_at hD (i := i / 32) (by simpa using hq1)
        have h3 : ((List.range len).map f).getD (i / 32) [] = f (i / 32) := by simp [List.getD, hq1]
        rw [h3] at h2
        have h4 : ((dc ((List.range len).map f)).drop (i / 32 * 32)).take 32 = (f (i / 32)).map B8 := h2
        rw [← h4, List.getElem?_take, if_pos (Nat.mod_lt _ (by decide)), List.getElem?_drop] at h1
        have h5 : i / 32 * 32 + i % 32 = i := by omega
        rw [h5, Nat.add_assoc, h5] at h1
        exact h1
    · have := bulk_slice (H := H) ((List.range len).map D) ((List.range (m - len)).map fun j => D (len + j))
      simpa using this
/-- AN ARGUMENT THAT IS A SIGNATURE -/
theorem open_sig {t e q : TypeId} {fs : Array Field} {W : World} {base : Nat} {v : Value} {d : DataW H} {ps : List MemPlace} (ht : P.underlying t = some (.struct fs)) {f0 f1 f2 : Field} (h0 : fs[0]? = some f0) (h1 : fs[1]? = some f1) (h2 : fs[2]? = some f2)
    (hti : P.underlying f0.type = some (.int .i64)) (htd : P.underlying f1.type = some (.slice e)) (htd2 : P.underlying f2.type = some (.slice e)) (ho0 : f0.offset = 0) (ho1 : f1.offset = 1) (ho2 : f2.offset = 2) (he : P.underlying e = some (.array 32 q)) (hq : P.underlying q = some (.int .u8)) (hce : P.cellsOf e = 32) (hcq : P.cellsOf q = 1)
    (hc0 : P.cellsOf f0.type = 1) (hc1 : P.cellsOf f1.type = 1) (hc2 : P.cellsOf f2.type = 1) (hct : P.cellsOf t = 3) (hfs : fs.size = 3)
    (hval : Value.okWide P W .any base t v) (h : DataW.Trod enc P W 0 (fun _ => true) true t v d ps) :
    ∃ (ix : Int) (u x : Value) (A B : List Bs), v = .agg #[I ix, u, x] ∧ Dg A ∧ Dg B ∧ RdD [] W u A ∧ RdD [] W x B ∧ A.length + B.length ≤ Rows.uptoBulk d ∧ (Lit.int .i64 ix).wf = true := by
  obtain ⟨cs, rfl, hsz⟩ := okWide_struct ht hval
  obtain ⟨fuel, h⟩ := h
  have hcells : (Value.agg cs).cells.toList = cs.toList := rfl
  rw [hcells] at h
  obtain ⟨xs, m, _, e2, hl, hlen, hf⟩ := DataW.trod_struct ht h
  rw [hct] at hsz
  obtain ⟨c0, c1, c2, hcs⟩ : ∃ c0 c1 c2, cs.toList = [c0, c1, c2] := by
    have hL : cs.toList.length = 3 := by simpa using hsz
    match hh : cs.toList, hL with
    | [c0, c1, c2], _ => exact ⟨c0, c1, c2, rfl⟩
  obtain ⟨x0, x1, x2, rfl⟩ : ∃ x0 x1 x2, xs = [x0, x1, x2] := by
    rw [hfs] at hlen
    match xs, hlen with
    | [c0, c1, c2], _ => exact ⟨c0, c1, c2, rfl⟩
  have g0 := hf 0 f0 h0
  have g1 := hf 1 f1 h1
  have g2 := hf 2 f2 h2
  rw [hcs, hc0, ho0] at g0
  rw [hcs, hc1, ho1] at g1
  rw [hcs, hc2, ho2] at g2
  simp only [List.drop_zero, List.take_succ_cons, List.take_zero, List.getElem?_cons_zero, List.getElem?_cons_succ, List.drop_succ_cons] at g0 g1 g2
  obtain ⟨ix, e3, _, hw⟩ := DataW.trod_int hti g0
  obtain ⟨u, A, e4, hA, hrA, hbA⟩ := digs_of (d := x1.1) (ps := x1.2) htd he hq hce hcq g1
  obtain ⟨x, B, e5, hB, hrB, hbB⟩ := digs_of (d := x2.1) (ps := x2.2) htd2 he hq hce hcq g2
  simp only [List.cons.injEq, and_true] at e3 e4 e5
  refine ⟨ix, u, x, A, B, ?_, hA, hB, hrA, hrB, ?_, hw⟩
  · congr 1
    apply Array.ext'
    rw [hcs, e3, e4, e5]
  · cases e2
    simp only [Rows.uptoBulk, Rows.uptoBulkAll, List.map_cons]
    omega
end
end Go.Proofs.YtipjpbfledddaaaDoor
