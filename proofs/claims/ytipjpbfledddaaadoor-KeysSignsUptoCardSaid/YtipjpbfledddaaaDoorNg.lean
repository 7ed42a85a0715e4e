/- More arguments' readings: acts in a row. -/
import Derived.Test.YtipjpbfledddaaaDoorNb
import Derived.Test.YtipjpbfledddaaaDoorNf
import Derived.Test.YtipjpbfledddaaaDoorMn
namespace Go.Proofs.YtipjpbfledddaaaDoor
open Go Go.ChangeShapes Go.WideShapes Go.ChangeAt Go.RowKit
section
variable {H : Type} {enc : TypeId × Value → H} {P : Program}
/-- what an act's struct is of -/
structure ActT (P : Program) (e tb q : TypeId) : Prop where
  fs : ∃ (fs : Array Field) (f0 f1 f2 : Field), P.underlying e = some (.struct fs) ∧ fs.toList = [f0, f1, f2] ∧ P.underlying f0.type = some (.int .i64) ∧ P.underlying f1.type = some (.int .i64) ∧ f2.type = tb ∧ f0.offset = 0 ∧ f1.offset = 1 ∧ f2.offset = 2 ∧ P.cellsOf f0.type = 1 ∧ P.cellsOf f1.type = 1 ∧ P.cellsOf tb = 1
  ue : P.cellsOf e = 3
  ub : P.underlying tb = some (.slice q)
  uq : P.underlying q = some (.int .u8)
  cq : P.cellsOf q = 1
theorem trod_act {e tb q : TypeId} {W : World} {fuel : Nat} {cs : List Value} {x : DataW H × List MemPlace} (hT : ActT P e tb q) (h : DataW.trod enc P W 0 (fun _ => true) true fuel e cs = some x) :
    ∃ (a : Int × Int × Bs) (tv : Value), cs = [I a.1, I a.2.1, tv] ∧ By [] W tv a.2.2 := by
  obtain ⟨⟨fs, f0, f1, f2, hu, hfs, t0, t1, t2, o0, o1, o2, c0, c1, c2⟩, ue, ub, uq, cq⟩ := hT
  obtain ⟨xs, m, _, _, hl, hlen, hf⟩ := DataW.trod_struct hu h
  rw [ue] at hl
  have hsz : fs.size = 3 := by rw [← Array.length_toList, hfs]; rfl
  obtain ⟨d0, d1, d2, rfl⟩ : ∃ c0 c1 c2, cs = [c0, c1, c2] := by
    match cs, hl with
    | [c0, c1, c2], _ => exact ⟨c0, c1, c2, rfl⟩
  obtain ⟨x0, x1, x2, rfl⟩ : ∃ x0 x1 x2, xs = [x0, x1, x2] := by
    rw [hsz] at hlen
    match xs, hlen with
    | [c0, c1, c2], _ => exact ⟨c0, c1, c2, rfl⟩
  have hg : ∀ i, fs[i]? = [f0, f1, f2][i]? := fun i => by rw [← hfs]; first | rfl | exact Array.getElem?_toList.symm | exact (Array.getElem?_toList).symm
  have g0 := hf 0 f0 (hg 0)
  have g1 := hf 1 f1 (hg 1)
  have g2 := hf 2 f2 (hg 2)
  rw [c0, o0] at g0
  rw [c1, o1] at g1
  rw [t2, c2, o2] at g2
  simp only [List.drop_zero, List.take_succ_cons, List.take_zero, List.getElem?_cons_zero, List.getElem?_cons_succ, List.drop_succ_cons] at g0 g1 g2
  obtain ⟨k, e3, _, _⟩ := DataW.trod_int t0 g0
  obtain ⟨n, e4, _, _⟩ := DataW.trod_int t1 g1
  obtain ⟨l, hl⟩ := rows_bytes (d := x2.1) (ps := x2.2) ub uq cq g2
  simp only [List.cons.injEq, and_true] at e3 e4
  exact ⟨(k, n, l), d2, by rw [e3, e4], hl⟩
def cellA (a : Int × Int × Bs) (tv : Value) : Nat → Value
  | 0 => I a.1
  | 1 => I a.2.1
  | _ => tv
theorem cellA_at (a : Int × Int × Bs) (tv : Value) {j : Nat} (hj : j < 3) : [I a.1, I a.2.1, tv][j]? = some (cellA a tv j) := by
  match j, hj with
  | 0, _ => rfl
  | 1, _ => rfl
  | 2, _ => rfl
/-- AN ARGUMENT OF ACTS IN A ROW -/
theorem open_acts {t e tb q : TypeId} {W : World} {base : Nat} {v : Value} {d : DataW H} {ps : List MemPlace} (ht : P.underlying t = some (.slice e)) (hT : ActT P e tb q)
    (hval : Value.okWide P W .any base t v) (h : DataW.Trod enc P W 0 (fun _ => true) true t v d ps) : ∃ ac : List (Int × Int × Bs), RdA [] W v ac ∧ ac.length + 1 ≤ Rows.uptoBulk d := by
  obtain ⟨a, len, cap, rfl⟩ := okWide_slice ht hval
  obtain ⟨fuel, h⟩ := h
  have hcells : (Value.slice a len cap).cells.toList = [.slice a len cap] := rfl
  rw [hcells] at h
  rcases Deep.open_slice ht h with ⟨e1, e2⟩ | ⟨ad, len', cap', m, n, D, Pl, e1, hb, hl, hm, hmm, e2, hx⟩
  · cases e1
    cases e2
    exact ⟨[], ⟨[], [], ⟨rfl, none, 0, rfl, Nat.le_refl _, fun _ => ⟨rfl, rfl⟩, fun _ h => by cases h⟩, fun i hi => (by cases hi)⟩, by simp [Rows.uptoBulk]⟩
  · cases e1
    cases e2
    simp only [if_true] at hmm
    subst hmm
    rw [hT.ue] at hx
    have hR : ∀ i, i < m → ∃ p : (Int × Int × Bs) × Value, By [] W p.2 p.1.2.2 ∧ ∀ j, j < 3 → W.cell? ((ad.add (i * 3)).add j) = some (cellA p.1 p.2 j) := fun i hi => by
      obtain ⟨cs', h1, h2⟩ := hx i hi
      obtain ⟨_, h3, h4⟩ := World.cells?_some h1
      obtain ⟨a, tv, rfl, h5⟩ := trod_act hT h2
      exact ⟨(a, tv), h5, fun j hj => by rw [h4 j hj]; exact cellA_at a tv hj⟩
    obtain ⟨f, hf⟩ : ∃ f : Nat → (Int × Int × Bs) × Value, ∀ i, i < m → By [] W (f i).2 (f i).1.2.2 ∧ ∀ j, j < 3 → W.cell? ((ad.add (i * 3)).add j) = some (cellA (f i).1 (f i).2 j) :=
      ⟨fun i => if hi : i < m then Classical.choose (hR i hi) else (dA, nilV), fun i hi => by simp only [dif_pos hi]; exact Classical.choose_spec (hR i hi)⟩
    have hcs : ∀ i j, i < len → j < 3 → ((List.range (len * 3)).map fun p => cellA (f (p / 3)).1 (f (p / 3)).2 (p % 3))[i * 3 + j]? = some (cellA (f i).1 (f i).2 j) := fun i j hi hj => by
      rw [List.getElem?_map, List.getElem?_range (by omega)]
      simp only [Option.map_some]
      rw [show (i * 3 + j) / 3 = i by omega, show (i * 3 + j) % 3 = j by omega]
    refine ⟨(List.range len).map fun i => (f i).1, ⟨(List.range (len * 3)).map fun p => cellA (f (p / 3)).1 (f (p / 3)).2 (p % 3), (List.range len).map fun i => (f i).2, ⟨by simp, some ad, m, by simp, by simpa using hl, fun h => (by cases h), fun ad' h' hm0 => ?_⟩, fun i hi => ?_⟩, ?_⟩
    · cases h'
      have h0 : W.cell? ((ad.add (0 * 3)).add 0) = some (cellA (f 0).1 (f 0).2 0) := (hf 0 hm0).2 0 (by decide)
      have e0 : (ad.add (0 * 3)).add 0 = ad := by simp [Addr.add]
      rw [e0] at h0
      have hspot : ad.spot = none := by
        unfold World.cell? at h0
        split at h0
        · split at h0
          · cases h0
          · rename_i hs
            cases hq : ad.spot with
            | none => rfl
            | some s => rw [hq] at hs; exact absurd rfl hs
        · cases h0
      obtain ⟨b, off, sp⟩ := ad
      simp only at hspot
      subst hspot
      obtain ⟨arr, row, fr, harr⟩ : ∃ arr row fr, W.heap[b]? = some (.cells arr row fr) := by
        unfold World.cell? at h0
        split at h0
        · rename_i c el fr hq
          exact ⟨c, el, fr, hq⟩
        · cases h0
      have hcell : ∀ i j, i < m → j < 3 → arr[off + i * 3 + j]? = some (cellA (f i).1 (f i).2 j) := fun i j hi hj => by
        have h1 := (hf i hi).2 j hj
        rw [add_plain, add_plain] at h1
        simpa [World.cell?, harr] using h1
      refine ⟨rfl, by simp, arr, row, fr, harr, ?_, fun i hi => ?_⟩
      · have h1 := hcell (m - 1) 2 (by omega) (by decide)
        have := (Array.getElem?_eq_some_iff.1 h1).1
        simp only
        omega
      · have hi' : i < len * 3 := by simpa using hi
        have h1 := hcell (i / 3) (i % 3) (by omega) (Nat.mod_lt _ (by decide))
        have h2 := hcs (i / 3) (i % 3) (by omega) (Nat.mod_lt _ (by decide))
        have h5 : i / 3 * 3 + i % 3 = i := by omega
        rw [h5] at h2
        rw [Nat.add_assoc, h5] at h1
        rw [h2]
        exact h1
    · have hi' : i < len := by simpa using hi
      have ea : ((List.range len).map fun i => (f i).1).getD i dA = (f i).1 := by simp [List.getD, hi']
      have et : ((List.range len).map fun i => (f i).2).getD i nilV = (f i).2 := by simp [List.getD, hi']
      rw [ea, et]
      exact ⟨hcs i 0 hi' (by decide), hcs i 1 hi' (by decide), hcs i 2 hi' (by decide), (hf i (by omega)).1⟩
    · have := bulk_slice (H := H) ((List.range len).map D) ((List.range (m - len)).map fun j => D (len + j))
      simpa using this
end
end Go.Proofs.YtipjpbfledddaaaDoor
