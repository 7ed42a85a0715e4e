/- The texts Nb, Nc, Nd, Ne, Nf, Nh, Ni, Nj, Nk of this proof's library, one behind the other. -/
import Derived.Test.YthhdilafnfcpbaaDoorNa
import Derived.Test.YthhdilafnfcpbaaDoorMzb
import Derived.Test.YthhdilafnfcpbaaDoorMzc
import Derived.Test.YthhdilafnfcpbaaDoorVz
/- More arguments' readings: an array of words. -/
namespace Go.Proofs.YthhdilafnfcpbaaDoor
open Go Go.ChangeShapes Go.WideShapes Go.ChangeAt Go.RowKit
section
variable {H : Type} {enc : TypeId × Value → H} {P : Program}
theorem bulk_part {d : DataW H} {l : List (DataW H)} (h : d ∈ l) : Rows.uptoBulk d ≤ Rows.uptoBulkAll l := by
  induction l with
  | nil => cases h
  | cons x r ih =>
    simp only [Rows.uptoBulkAll]
    cases List.mem_cons.1 h with
    | inl e => subst e; omega
    | inr e => have := ih e; omega

end
end Go.Proofs.YthhdilafnfcpbaaDoor
/- More arguments' readings: an array of bytes. -/
namespace Go.Proofs.YthhdilafnfcpbaaDoor
open Go Go.ChangeShapes Go.WideShapes Go.ChangeAt Go.RowKit
section
variable {H : Type} {enc : TypeId × Value → H} {P : Program}
end
end Go.Proofs.YthhdilafnfcpbaaDoor
/- More arguments' readings: digests in a row. -/
namespace Go.Proofs.YthhdilafnfcpbaaDoor
open Go Go.ChangeShapes Go.WideShapes Go.ChangeAt Go.RowKit
section
variable {H : Type} {enc : TypeId × Value → H} {P : Program}
end
end Go.Proofs.YthhdilafnfcpbaaDoor
/- More arguments' readings: structs of whole numbers. -/
namespace Go.Proofs.YthhdilafnfcpbaaDoor
open Go Go.ChangeShapes Go.WideShapes Go.ChangeAt Go.RowKit
section
variable {H : Type} {enc : TypeId × Value → H} {P : Program}
def intOf : Value → Int
  | .int _ z => z
  | _ => 0
end
end Go.Proofs.YthhdilafnfcpbaaDoor
/- More arguments' readings: signatures. -/
namespace Go.Proofs.YthhdilafnfcpbaaDoor
open Go Go.ChangeShapes Go.WideShapes Go.ChangeAt Go.RowKit
section
variable {H : Type} {enc : TypeId × Value → H} {P : Program}
end
end Go.Proofs.YthhdilafnfcpbaaDoor
/- More arguments' readings: results, what may be signed. -/
namespace Go.Proofs.YthhdilafnfcpbaaDoor
open Go Go.ChangeShapes Go.WideShapes Go.ChangeAt Go.RowKit
section
variable {H : Type} {enc : TypeId × Value → H} {P : Program}
/-- bytes out of a cell that holds a slice, and how many at most -/
theorem bytes_of {q : TypeId} {t : TypeId} {W : World} {v : Value} {d : DataW H} {ps : List MemPlace} {n : Nat} (ht : P.underlying t = some (.slice q)) (hq : P.underlying q = some (.int .u8)) (hc : P.cellsOf q = 1)
    (h : DataW.trod enc P W 0 (fun _ => true) true n t [v] = some (d, ps)) : ∃ l : Bs, By [] W v l ∧ l.length + 1 ≤ Rows.uptoBulk d := by
  rcases Deep.open_slice1 ht hc h with ⟨e1, e2⟩ | ⟨ad, len, cap, m, n', V, D, Pl, e1, hb, hl, hm, hmm, e2, hx⟩
  · cases e1
    cases e2
    exact ⟨[], ⟨rfl, none, 0, rfl, Nat.le_refl _, fun _ => ⟨rfl, rfl⟩, fun _ h => by cases h⟩, by simp [Rows.uptoBulk]⟩
  · cases e1
    simp only [if_true] at hmm
    subst hmm
    have hV : ∀ i, i < m → V i = B8 (byteOf (V i)) := fun i hi => by
      obtain ⟨z, hz, _, hw⟩ := DataW.trod_int hq (hx i hi).2
      have : V i = .int .u8 z := by simpa using hz
      rw [this]
      exact byteOf_cell hw
    refine ⟨(List.range len).map fun i => byteOf (V i), ⟨by simp, some ad, m, by simp, by simpa using hl, fun h => (by cases h), fun ad' h' hm0 => ?_⟩, by
      cases e2
      have := bulk_slice (H := H) ((List.range len).map D) ((List.range (m - len)).map fun j => D (len + j))
      simpa using this⟩
    cases h'
    have h0 := (hx 0 hm0).1
    have hspot : ad.spot = none := by
      have e : ad.add 0 = ad := by simp [Addr.add]
      rw [e] at h0
      unfold World.cell? at h0
      split at h0
      · split at h0
        · cases h0
        · rename_i hs
          cases hq : ad.spot with
          | none => rfl
          | some s => rw [hq] at hs; exact absurd rfl hs
      · cases h0
    have hadd : ∀ i, ad.add i = ⟨ad.block, ad.off + i, none⟩ := fun i => by
      cases ad
      simp only at hspot
      subst hspot
      exact add_plain _ _ _
    obtain ⟨arr, row, fr, harr⟩ : ∃ arr row fr, W.heap[ad.block]? = some (.cells arr row fr) := by
      rw [hadd] at h0
      unfold World.cell? at h0
      split at h0
      · rename_i c el fr hq
        exact ⟨c, el, fr, hq⟩
      · cases h0
    have hcell : ∀ i, i < m → arr[ad.off + i]? = some (V i) := fun i hi => by
      have h1 := (hx i hi).1
      rw [hadd] at h1
      simpa [World.cell?, harr] using h1
    refine ⟨hspot, by simp, arr, row, fr, harr, ?_, fun i hi => ?_⟩
    · have := (Array.getElem?_eq_some_iff.1 (hcell (m - 1) (by omega))).1
      omega
    · have hi' : i < len := by simpa using hi
      rw [hcell i (by omega), hV i (by omega)]
      simp [hi', byteOf, B8]

end
end Go.Proofs.YthhdilafnfcpbaaDoor
/- More arguments' readings: orders. -/
namespace Go.Proofs.YthhdilafnfcpbaaDoor
open Go Go.ChangeShapes Go.WideShapes Go.ChangeAt Go.RowKit
section
variable {H : Type} {enc : TypeId × Value → H} {P : Program}
end
end Go.Proofs.YthhdilafnfcpbaaDoor
/- More arguments' readings: structs in a row; what a worker hears. -/
namespace Go.Proofs.YthhdilafnfcpbaaDoor
open Go Go.ChangeShapes Go.WideShapes Go.ChangeAt Go.RowKit
section
variable {H : Type} {enc : TypeId × Value → H} {P : Program}
/-- AN ARGUMENT OF STRUCTS IN A ROW -/
theorem open_structs {X : Type} {k : Nat} (c : X → List Value) (sz : X → Nat) {t e : TypeId} {W : World} {base : Nat} {v : Value} {d : DataW H} {ps : List MemPlace} (Pr : X → Prop) (hk0 : 0 < k) (ht : P.underlying t = some (.slice e)) (ue : P.cellsOf e = k) (hc : ∀ x, Pr x → (c x).length = k)
    (hel : ∀ (fuel : Nat) (cs : List Value) (x : DataW H × List MemPlace), cs.length = k → DataW.trod enc P W 0 (fun _ => true) true fuel e cs = some x → ∃ y, cs = c y ∧ Pr y ∧ sz y ≤ Rows.uptoBulk x.1)
    (hval : Value.okWide P W .any base t v) (h : DataW.Trod enc P W 0 (fun _ => true) true t v d ps) : ∃ xs : List X, Rd [] W v xs.length k (xs.map c).flatten ∧ (∀ x ∈ xs, Pr x ∧ sz x ≤ Rows.uptoBulk d) ∧ xs.length + 1 ≤ Rows.uptoBulk d := by
  obtain ⟨a, len, cap, rfl⟩ := okWide_slice ht hval
  obtain ⟨fuel, h⟩ := h
  have hcells : (Value.slice a len cap).cells.toList = [.slice a len cap] := rfl
  rw [hcells] at h
  rcases Deep.open_slice ht h with ⟨e1, e2⟩ | ⟨ad, len', cap', m, n, D, Pl, e1, hb, hl, hm, hmm, e2, hx⟩
  · cases e1
    cases e2
    exact ⟨[], ⟨by simp, none, 0, rfl, Nat.le_refl _, fun _ => ⟨rfl, rfl⟩, fun _ h => by cases h⟩, by simp, by simp [Rows.uptoBulk]⟩
  · cases e1
    cases e2
    simp only [if_true] at hmm
    subst hmm
    rw [ue] at hx
    have hR : ∀ i, i < m → ∃ y : X, (∀ j, j < k → W.cell? ((ad.add (i * k)).add j) = (c y)[j]?) ∧ Pr y ∧ sz y ≤ Rows.uptoBulk (D i) := fun i hi => by
      obtain ⟨cs', h1, h2⟩ := hx i hi
      obtain ⟨_, h3, h4⟩ := World.cells?_some h1
      obtain ⟨y, rfl, h5, h6⟩ := hel _ _ _ h3 h2
      exact ⟨y, fun j hj => h4 j hj, h5, h6⟩
    obtain ⟨xs, hxl, hxs⟩ : ∃ xs : List X, xs.length = m ∧ ∀ i (hi : i < xs.length), (∀ j, j < k → W.cell? ((ad.add (i * k)).add j) = (c xs[i])[j]?) ∧ Pr xs[i] ∧ sz xs[i] ≤ Rows.uptoBulk (D i) :=
      ⟨(List.finRange m).map fun i => Classical.choose (hR i.1 i.2), by simp, fun i hi => by
        have hi' : i < m := by simpa using hi
        have := Classical.choose_spec (hR i hi')
        simpa using this⟩
    obtain ⟨ys, hyl, hys⟩ : ∃ ys : List X, ys.length = len ∧ ∀ i (hi : i < ys.length), (∀ j, j < k → W.cell? ((ad.add (i * k)).add j) = (c ys[i])[j]?) ∧ Pr ys[i] ∧ sz ys[i] ≤ Rows.uptoBulk (D i) :=
      ⟨xs.take len, by simp; omega, fun i hi => by
        have := hxs i (by simp at hi; omega)
        simpa using this⟩
    have hcl : ∀ y ∈ ys, (c y).length = k := fun y hy => by
      obtain ⟨i, hi, rfl⟩ := List.getElem_of_mem hy
      exact hc _ (hys i hi).2.1
    have hfl := flat_length c hcl
    refine ⟨ys, ⟨hfl, some ad, m, by rw [hyl], by omega, fun h => (by cases h), fun ad' h' hm0 => ?_⟩, fun y hy => ?_, ?_⟩
    · cases h'
      have hlx : 0 < xs.length := by omega
      have h0 := (hxs 0 hlx).1 0 hk0
      have hc0 : (c xs[0]).length = k := hc _ (hxs 0 hlx).2.1
      rw [List.getElem?_eq_getElem (by omega)] at h0
      have e0 : (ad.add (0 * k)).add 0 = ad := by simp [Addr.add]
      rw [e0] at h0
      have hspot : ad.spot = none := by
        unfold World.cell? at h0
        split at h0
        · split at h0
          · cases h0
          · rename_i hs
            cases hq : ad.spot with
            | none => rfl
            | some s => rw [hq] at hs; exact absurd rfl hs
        · cases h0
      obtain ⟨b, off, sp⟩ := ad
      simp only at hspot
      subst hspot
      obtain ⟨arr, row, fr, harr⟩ : ∃ arr row fr, W.heap[b]? = some (.cells arr row fr) := by
        unfold World.cell? at h0
        split at h0
        · rename_i c el fr hq
          exact ⟨c, el, fr, hq⟩
        · cases h0
      have hcell : ∀ i (hi : i < xs.length) j, j < k → arr[off + i * k + j]? = (c xs[i])[j]? := fun i hi j hj => by
        have h1 := (hxs i hi).1 j hj
        rw [add_plain, add_plain] at h1
        simpa [World.cell?, harr] using h1
      have hcelly : ∀ i (hi : i < ys.length) j, j < k → arr[off + i * k + j]? = (c ys[i])[j]? := fun i hi j hj => by
        have h1 := (hys i hi).1 j hj
        rw [add_plain, add_plain] at h1
        simpa [World.cell?, harr] using h1
      refine ⟨rfl, by simp, arr, row, fr, harr, ?_, fun p hp => ?_⟩
      · have hm1 : m - 1 < xs.length := by omega
        have h1 := hcell (m - 1) hm1 (k - 1) (by omega)
        have h2 : (c xs[m - 1]).length = k := hc _ (hxs (m - 1) hm1).2.1
        rw [List.getElem?_eq_getElem (by omega)] at h1
        have := (Array.getElem?_eq_some_iff.1 h1).1
        have h3 : (m - 1) * k + k = m * k := by rw [← Nat.succ_mul]; congr 1; omega
        simp only
        omega
      · have hdk : p / k < ys.length := Nat.div_lt_of_lt_mul (by rw [Nat.mul_comm]; exact hp)
        have hmk : p % k < k := Nat.mod_lt _ hk0
        have h1 := hcelly (p / k) hdk (p % k) hmk
        have h2 := flat_at c hcl hdk
        have h5 : p / k * k + p % k = p := by rw [Nat.mul_comm]; exact Nat.div_add_mod p k
        rw [Nat.add_assoc, h5] at h1
        rw [← h2, List.getElem?_take, if_pos hmk, List.getElem?_drop, h5] at h1
        exact h1
    · obtain ⟨i, hi, rfl⟩ := List.getElem_of_mem hy
      refine ⟨(hys i hi).2.1, Nat.le_trans (hys i hi).2.2 ?_⟩
      have := bulk_part (H := H) (d := D i) (l := (List.range len).map D) (List.mem_map.2 ⟨i, List.mem_range.2 (by omega), rfl⟩)
      simp only [Rows.uptoBulk]
      omega
    · have := bulk_slice (H := H) ((List.range len).map D) ((List.range (m - len)).map fun j => D (len + j))
      rw [hyl]
      simpa using this
end
end Go.Proofs.YthhdilafnfcpbaaDoor
/- More arguments' readings: whole numbers in a row; calls. -/
namespace Go.Proofs.YthhdilafnfcpbaaDoor
open Go Go.ChangeShapes Go.WideShapes Go.ChangeAt Go.RowKit
section
variable {H : Type} {enc : TypeId × Value → H} {P : Program}
/-- whole numbers in a row, somewhere inside -/
theorem ints_of {q : TypeId} {t : TypeId} {W : World} {v : Value} {d : DataW H} {ps : List MemPlace} {n : Nat} (ht : P.underlying t = some (.slice q)) (hq : P.underlying q = some (.int .i64)) (hc : P.cellsOf q = 1)
    (h : DataW.trod enc P W 0 (fun _ => true) true n t [v] = some (d, ps)) : ∃ l : List Int, Rm I [] W v l ∧ l.length + 1 ≤ Rows.uptoBulk d := by
  rcases Deep.open_slice1 ht hc h with ⟨e1, e2⟩ | ⟨ad, len, cap, m, n', V, D, Pl, e1, hb, hl, hm, hmm, e2, hx⟩
  · cases e1
    cases e2
    exact ⟨[], ⟨rfl, none, 0, rfl, Nat.le_refl _, fun _ => ⟨rfl, rfl⟩, fun _ h => by cases h⟩, by simp [Rows.uptoBulk]⟩
  · cases e1
    simp only [if_true] at hmm
    subst hmm
    have hV : ∀ i, i < m → V i = I (intOf (V i)) := fun i hi => by
      obtain ⟨z, hz, _, hw⟩ := DataW.trod_int hq (hx i hi).2
      have : V i = .int .i64 z := by simpa using hz
      rw [this]
      rfl
    refine ⟨(List.range len).map fun i => intOf (V i), ⟨by simp, some ad, m, by simp, by simpa using hl, fun h => (by cases h), fun ad' h' hm0 => ?_⟩, by
      cases e2
      have := bulk_slice (H := H) ((List.range len).map D) ((List.range (m - len)).map fun j => D (len + j))
      simpa using this⟩
    cases h'
    have h0 := (hx 0 hm0).1
    have hspot : ad.spot = none := by
      have e : ad.add 0 = ad := by simp [Addr.add]
      rw [e] at h0
      unfold World.cell? at h0
      split at h0
      · split at h0
        · cases h0
        · rename_i hs
          cases hq : ad.spot with
          | none => rfl
          | some s => rw [hq] at hs; exact absurd rfl hs
      · cases h0
    have hadd : ∀ i, ad.add i = ⟨ad.block, ad.off + i, none⟩ := fun i => by
      cases ad
      simp only at hspot
      subst hspot
      exact add_plain _ _ _
    obtain ⟨arr, row, fr, harr⟩ : ∃ arr row fr, W.heap[ad.block]? = some (.cells arr row fr) := by
      rw [hadd] at h0
      unfold World.cell? at h0
      split at h0
      · rename_i c el fr hq
        exact ⟨c, el, fr, hq⟩
      · cases h0
    have hcell : ∀ i, i < m → arr[ad.off + i]? = some (V i) := fun i hi => by
      have h1 := (hx i hi).1
      rw [hadd] at h1
      simpa [World.cell?, harr] using h1
    refine ⟨hspot, by simp, arr, row, fr, harr, ?_, fun i hi => ?_⟩
    · have := (Array.getElem?_eq_some_iff.1 (hcell (m - 1) (by omega))).1
      omega
    · have hi' : i < len := by simpa using hi
      rw [hcell i (by omega), hV i (by omega)]
      simp [hi', byteOf, B8]

/-- AN ARGUMENT OF CALLS -/
theorem open_calls {t e qb qi : TypeId} {fs : Array Field} {f0 f1 f2 : Field} {W : World} {base : Nat} {v : Value} {d : DataW H} {ps : List MemPlace} (ht : P.underlying t = some (.slice e)) (ue : P.cellsOf e = 3) (he : P.underlying e = some (.struct fs)) (h0 : fs[0]? = some f0) (h1 : fs[1]? = some f1) (h2 : fs[2]? = some f2)
    (t0 : P.underlying f0.type = some (.int .i64)) (t1 : P.underlying f1.type = some (.slice qb)) (t2 : P.underlying f2.type = some (.slice qi)) (ub : P.underlying qb = some (.int .u8)) (ui : P.underlying qi = some (.int .i64)) (cb : P.cellsOf qb = 1) (ci : P.cellsOf qi = 1)
    (o0 : f0.offset = 0) (o1 : f1.offset = 1) (o2 : f2.offset = 2) (c0 : P.cellsOf f0.type = 1) (c1 : P.cellsOf f1.type = 1) (c2 : P.cellsOf f2.type = 1) (hfs : fs.size = 3)
    (hval : Value.okWide P W .any base t v) (h : DataW.Trod enc P W 0 (fun _ => true) true t v d ps) (hb : Rows.uptoBulk d ≤ 1048576) : ∃ cl : List CallE, RdCl [] W v cl ∧ cl.length + 1 ≤ Rows.uptoBulk d := by
  have hel : ∀ (fuel : Nat) (cs : List Value) (x : DataW H × List MemPlace), cs.length = 3 → DataW.trod enc P W 0 (fun _ => true) true fuel e cs = some x → ∃ y : CallE, cs = cellsK y ∧ (By [] W y.bv y.b ∧ Rm I [] W y.kv y.ks) ∧ y.b.length + y.ks.length ≤ Rows.uptoBulk x.1 := fun fuel cs x hcs hq => by
    obtain ⟨ys, m, _, e2, hl, hlen, hf⟩ := DataW.trod_struct he hq
    obtain ⟨d0, d1, d2, rfl⟩ : ∃ c0 c1 c2, cs = [c0, c1, c2] := by
      match cs, hcs with
      | [c0, c1, c2], _ => exact ⟨c0, c1, c2, rfl⟩
    obtain ⟨x0, x1, x2, rfl⟩ : ∃ x0 x1 x2, ys = [x0, x1, x2] := by
      rw [hfs] at hlen
      match ys, hlen with
      | [c0, c1, c2], _ => exact ⟨c0, c1, c2, rfl⟩
    have g0 := hf 0 f0 h0
    have g1 := hf 1 f1 h1
    have g2 := hf 2 f2 h2
    rw [c0, o0] at g0
    rw [c1, o1] at g1
    rw [c2, o2] at g2
    simp only [List.drop_zero, List.take_succ_cons, List.take_zero, List.getElem?_cons_zero, List.getElem?_cons_succ, List.drop_succ_cons] at g0 g1 g2
    obtain ⟨k, e3, _, _⟩ := DataW.trod_int t0 g0
    obtain ⟨b, hbb, hbl⟩ := bytes_of (d := x1.1) (ps := x1.2) t1 ub cb g1
    obtain ⟨ks, hkk, hkl⟩ := ints_of (d := x2.1) (ps := x2.2) t2 ui ci g2
    simp only [List.cons.injEq, and_true] at e3
    refine ⟨⟨k, d1, d2, b, ks⟩, by rw [e3]; rfl, ⟨hbb, hkk⟩, ?_⟩
    cases e2
    simp only [Rows.uptoBulk, Rows.uptoBulkAll, List.map_cons]
    omega
  obtain ⟨xs, hr, hx, hl⟩ := open_structs (P := P) cellsK (fun e => e.b.length + e.ks.length) (fun e : CallE => By [] W e.bv e.b ∧ Rm I [] W e.kv e.ks) (by decide) ht ue (fun x _ => rfl) hel hval h
  exact ⟨xs, ⟨hr, fun e he => ⟨(hx e he).1.1, (hx e he).1.2, Nat.le_trans (hx e he).2 hb⟩⟩, hl⟩
end
end Go.Proofs.YthhdilafnfcpbaaDoor
