/- The lift: what an argument's reading gives a walk; a row's tables; what a law that returns true leaves. -/
import Derived.Test.YthhdilafnfcpbaaDoorMza
import Derived.Test.YthhdilafnfcpbaaDoorTb
import Derived.Test.YthhdilafnfcpbaaDoorRows
import Derived.Carry
import Derived.LaidSub
import Derived.Lay
import Derived.ProofKit
import Derived.OpenShut
import Derived.Deep.DeepHandedRow
import Derived.Deep.Slices
import Derived.Lib.LaidTab
namespace Go.Proofs.YthhdilafnfcpbaaDoor
open Go Go.ChangeShapes Go.WideShapes Go.ChangeAt Go.RowKit
section
variable {H : Type} {enc : TypeId × Value → H} {P : Program}

theorem HS.below {W W' : World} {Hs : List Hl} (h : HS [] W W' Hs) : Below W.heap.size W W' := ⟨h.os, h.tape, h.output, h.size, fun k hk => h.old k hk (by simp)⟩

theorem trodAll_stays (hl : laidOutB P = true) {W W' : World} {sp' : Nat → Bool} (hb : Below W.heap.size W W') : ∀ {ts : List TypeId} {vs : List Value} {ds : List (DataW H)} {ps : List MemPlace},
    (∀ t ∈ ts, P.readableRec t = true ∧ t < P.types.size) → DataW.TrodAll enc P W 0 (fun _ => true) true ts vs ds ps → (∀ p ∈ ps, p.block < W.heap.size) → (∀ p ∈ ps, sp' p.block = true) → DataW.TrodAll enc P W' 0 sp' true ts vs ds ps
  | [], vs, ds, ps, _, h, _, _ => by
    obtain ⟨rfl, rfl, rfl⟩ := trodAll_nil h
    exact rfl
  | t :: ts, vs, ds, ps, hr, h, hlt, hsp => by
    obtain ⟨v0, vs0, d0, ds0, p, q, rfl, rfl, rfl, h0, r0⟩ := trodAll_cons h
    refine ⟨p, q, WideElems.Trod_stays hl (hr t (by simp)).1 (hr t (by simp)).2 h0 (fun x hx => hb.same (hlt x (by simp [hx]))) (fun x hx => hsp x (by simp [hx])), ?_, rfl⟩
    exact trodAll_stays hl hb (fun t ht => hr t (by simp [ht])) r0 (fun x hx => hlt x (by simp [hx])) (fun x hx => hsp x (by simp [hx]))

/-- WHAT A LAW THAT RETURNS true LEAVES -/
theorem post_true {f : Func} {s : ChangeSpec} {apart handsOn : Bool} {W W' : World} {args : Array Value} {ds gs : List (DataW H)} {before : List MemPlace} {tb : TypeId} (hl : laidOutB P = true)
    (hr : ∀ t ∈ f.params.toList, P.readableRec t = true ∧ t < P.types.size) (hres : f.resultTypes = #[tb]) (htb : P.underlying tb = some .bool)
    (hW : DataW.Whole enc P f.params.toList s.vars apart W args.toList ds gs before) (hvars : s.vars = []) (hfn : s.fn H (ds ++ gs) = { results := [.lit (.bool true)], args := ds }) (hH : HS [] W W' []) :
    s.post enc P f apart true handsOn false W args (.bool true) W' := by
  have hlt : ∀ p ∈ before, p.block < W.heap.size := fun p hp => hW.lt p hp
  have hW' := hW
  obtain ⟨p, q, hA, hV, rfl, _, _⟩ := hW'
  rw [hvars] at hV
  obtain ⟨rfl, rfl⟩ := trodVars_none hV
  have hb := hH.below
  refine ⟨ds, [], p ++ [], [], p, [], hW, ?_, ?_, ?_, hb.frame _, fun h => by cases h⟩
  · rw [hfn, hres]
    exact trodAll_cons_mk (shut_bool htb _) trodAll_mk0
  · rw [hfn]
    exact trodAll_stays hl hb hr hA (fun x hx => hlt x (by simp [hx])) (fun x hx => by simpa using hlt x (by simp [hx]))
  · rw [hvars, hfn]
    exact rfl

/-! ### a slice that lies in a block ends in it -/
/-- a byte out of a cell -/
def byteOf : Value → BitVec 8
  | .int _ z => BitVec.ofInt 8 z
  | _ => 0#8
theorem byteOf_cell {z : Int} (h : (Lit.int .u8 z).wf = true) : (Value.int .u8 z) = B8 (byteOf (.int .u8 z)) := by
  simp only [Lit.wf, Bool.and_eq_true, decide_eq_true_eq] at h
  obtain ⟨h1, h2⟩ := h
  have h1 : 0 ≤ z := h1
  have h2 : z ≤ 255 := h2
  obtain ⟨n, rfl⟩ : ∃ n : Nat, z = n := ⟨z.toNat, by omega⟩
  have : n < 256 := by omega
  simp only [B8, byteOf, BitVec.ofInt_natCast, BitVec.toNat_ofNat]
  rw [Nat.mod_eq_of_lt (by simpa using this)]

theorem bulk_slice (elems spare : List (DataW H)) : elems.length + 1 ≤ Rows.uptoBulk (.slice elems spare) := by
  have one : ∀ d : DataW H, 1 ≤ Rows.uptoBulk d := fun d => by
    cases d with
    | lit l => cases l <;> simp [Rows.uptoBulk]
    | _ => simp [Rows.uptoBulk]
  have all : ∀ l : List (DataW H), l.length ≤ Rows.uptoBulkAll l := fun l => by
    induction l with
    | nil => simp [Rows.uptoBulkAll]
    | cons x r ih => have := one x; simp only [Rows.uptoBulkAll, List.length_cons]; omega
  have := all elems
  simp only [Rows.uptoBulk]
  omega

/-- A ROW's TABLE -/
theorem gv_of_laid {l : List (String × DataW Unit)} {W : World} (h : laidMetH P l W) (name : String) (c : List (BitVec 32)) {g : Nat} {t e : TypeId} {n : Nat}
    (hf : ((l.filter fun x => x.2.handleName?.isNone).filter fun x => x.1 == name) = [(name, Lib.tabData .u32 (c.map fun x => (x.toNat : Int)))])
    (hg : P.globalNamed name = some g) (hty : (P.globals[g]?).map (·.type) = some t) (ht : P.underlying t = some (.array n e)) (he : P.underlying e = some (.int .u32)) (hce : P.cellsOf e = 1) (hct : P.cellsOf t = n) :
    Gv W g (c.map U32) := by
  have h1 := ((laidMetH_iff.1 h).1).filter (fun x => x.1 == name)
  rw [hf] at h1
  have h2 := Lib.tabIs_of_head hg hty ht he hce hct h1
  simp only [Lib.TabIs, World.var?, hg, Option.bind_some] at h2
  split at h2
  · rename_i cs T fr hq
    refine ⟨T, fr, ?_⟩
    rw [hq]
    simp only [Option.some.injEq] at h2
    rw [h2, List.map_map]
    rfl
  · cases h2
end
end Go.Proofs.YthhdilafnfcpbaaDoor
