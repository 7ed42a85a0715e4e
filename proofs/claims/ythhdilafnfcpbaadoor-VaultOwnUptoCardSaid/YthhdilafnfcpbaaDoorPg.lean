/- The law VaultOwn: what its row says where what it reads is of bulk at most 1048576, and its card, proved. -/
import Derived.Test.YthhdilafnfcpbaaDoorNa
import Derived.Test.YthhdilafnfcpbaaDoorNz
import Derived.Test.YthhdilafnfcpbaaDoorJw
import Derived.Test.YthhdilafnfcpbaaDoorCards
import Derived.Test.YthhdilafnfcpbaaDoorTie
import Derived.WalkKit
namespace Go.Proofs.YthhdilafnfcpbaaDoor
open Go Go.ChangeShapes Go.WideShapes Go.ChangeAt Go.RowKit
set_option maxRecDepth 100000
namespace vaultOwn
theorem laidOut : laidOutB Tryd.prog = true := by kernel_rfl
theorem ownNone : ownKnob Tryd.prog.godebug = none := by kernel_rfl
theorem tables {W : World} (h : laidMetH Tryd.prog Rows.vaultOwnUptoRow.laid W) : Gl 0 W :=
  ⟨fun h => absurd h (by decide),
   fun h => absurd h (by decide),
   gv_of_laid h "jurat/sha.k" kTab (g := 3) (t := 132) (e := 119) (n := 64) (by kernel_rfl) (by kernel_rfl) (by kernel_rfl) Tryd.underlying132 Tryd.underlying119 (by kernel_rfl) (by kernel_rfl),
   gv_of_laid h "jurat/sha.begin" iv (g := 1) (t := 120) (e := 119) (n := 8) (by kernel_rfl) (by kernel_rfl) (by kernel_rfl) Tryd.underlying120 Tryd.underlying119 (by kernel_rfl) (by kernel_rfl)⟩
theorem contract (H : Type) (enc : TypeId × Value → H) (W : World) (base : Nat) (args : Array Value) (ds gs : List (DataW H)) (before : List MemPlace)
    (hval : ∀ (j : Nat) t v, Tryd.f6.params[j]? = some t → args[j]? = some v → Value.okWide Tryd.prog W .any base t v)
    (hW : DataW.Whole enc Tryd.prog Tryd.f6.params.toList Rows.vaultOwnSpec.vars false W args.toList ds gs before) (hk : Rows.uptoSmall H (ds ++ gs) = true) (hL : laidMetH Tryd.prog Rows.vaultOwnUptoRow.laid W) :
    Calls Tryd.prog 6 args W fun e W' => ∃ v, e = .returned v ∧ Rows.vaultOwnSpec.post enc Tryd.prog Tryd.f6 false true false false W args v W' := by
  have hW' := hW
  obtain ⟨p, q, hA0, hV, rfl, _, _⟩ := hW
  have hA : DataW.TrodAll enc Tryd.prog W 0 (fun _ => true) true Tryd.f6.params.toList args.toList ds p := hA0
  rw [Tryd.params6] at hA hval
  obtain ⟨v0, vs0, d0, ds0, p0, q0, ha0, rfl, rfl, h0, r0⟩ := trodAll_cons hA
  obtain ⟨rfl, rfl, rfl⟩ := trodAll_nil r0
  obtain rfl : args = #[v0] := by cases args; simp_all
  obtain ⟨rfl, rfl⟩ := trodVars_none hV
  have hsm : Rows.uptoBulkAll ([d0] ++ []) ≤ 1048576 := of_decide_eq_true hk
  simp only [List.append_nil, Rows.uptoBulkAll] at hsm
  obtain ⟨cl0, hc0, hcl0⟩ := open_calls Tryd.underlying22 (by kernel_rfl) Tryd.underlying39 rfl rfl rfl Tryd.underlying3 Tryd.underlying32 Tryd.underlying37 Tryd.underlying5 Tryd.underlying3 (by kernel_rfl) (by kernel_rfl) rfl rfl rfl (by kernel_rfl) (by kernel_rfl) (by kernel_rfl) rfl (hval 0 22 v0 rfl rfl) h0 (by omega)
  refine (vaultOwn_any (tables hL) v0 cl0 hc0 (by omega)).mono fun e W' h => ?_
  obtain ⟨r, rfl, rfl, hH⟩ := h
  exact ⟨_, rfl, post_true laidOut (by rw [Tryd.params6]; intro t ht; simp only [List.mem_cons, List.not_mem_nil, or_false] at ht; rcases ht with rfl <;> exact ⟨by kernel_rfl, of_decide_eq_true (by kernel_rfl)⟩) rfl Tryd.underlying4 hW' rfl rfl hH⟩
theorem laid_met (os : Os) : laidMetH Tryd.prog Rows.vaultOwnUptoRow.laid ((World.laidAll Tryd.prog os Rows.vaultOwnUptoRow.laid).forCall (fun _ _ => 0) ⟨#[], #[.slice none 0 0], []⟩).memory := by
  refine laidMetH_iff.2 ⟨?_, ?_⟩
  · rw [show (Rows.vaultOwnUptoRow.laid.filter fun x => x.2.handleName?.isNone) = Rows.vaultOwnUptoRow.laid by kernel_rfl]
    exact laidMet_laidAll _ (by kernel_rfl) (by kernel_rfl)
  · rw [show (Rows.vaultOwnUptoRow.laid.filter fun x => x.2.handleName?.isSome) = [] by kernel_rfl]
    exact fun x hx => by cases hx
theorem reads (os : Os) {H : Type} (enc : TypeId × Value → H) : ∃ places, DataW.whole enc Tryd.prog ((World.laidAll Tryd.prog os Rows.vaultOwnUptoRow.laid).forCall (fun _ _ => 0) ⟨#[], #[.slice none 0 0], []⟩).memory Tryd.f6.params.toList Rows.vaultOwnSpec.vars false (#[.slice none 0 0] : Array Value).toList 8 = some ([.nil], [], places) :=
  ⟨[], by kernel_rfl⟩
set_option maxRecDepth 100000 in
theorem lifted (os : Os) (started : os.Started) (H : Type) (enc : TypeId × Value → H) (F : Stop.Interp) :
    ReturnsInHanded {} Tryd.checked os 6 .any ((Rows.OpenSpec.upto Rows.vaultOwnSpec).preRow enc Tryd.prog Tryd.f6 Rows.vaultOwnUptoRow.domain false Rows.vaultOwnUptoRow.laid) (((Rows.OpenSpec.upto Rows.vaultOwnSpec).at F).post enc Tryd.prog Tryd.f6 false true false false) := by
  obtain ⟨places, hx⟩ := reads os enc
  refine returnsInHanded_of_row (C := Tryd.checked) (s := Rows.OpenSpec.upto Rows.vaultOwnSpec) ownNone started (by kernel_rfl) Tryd.func6
    (witness_row_at (enc := enc) (C := Tryd.checked) false (World.laidAll Tryd.prog os Rows.vaultOwnUptoRow.laid) #[.slice none 0 0] (World.laidAll_os _ _ _) (by kernel_rfl) (by kernel_rfl) (by kernel_rfl)
      (OpenSpec.preRow_of_cond 8 hx (by kernel_rfl) (fun k hk => by cases hk; kernel_rfl) (by kernel_rfl) (laid_met os))) ?_
  intro W base args ds gs before hval hW _ hcond _ hL _ _
  exact contract H enc W base args ds gs before hval hW (hcond _ rfl) hL
theorem said : Rows.VaultOwnUptoSaid :=
  OpenClaim.holds_of_cond 6 Tryd.f6 rfl rfl rfl rfl rfl rfl rfl ⟨rfl, rfl, rfl, rfl, rfl⟩ rfl rfl rfl rfl rfl (by kernel_rfl) Tryd.func6 (by kernel_rfl)
    (of_decide_eq_true (by kernel_rfl)) (by unfold Func.isWrapper; first | (rw [if_pos (by decide +kernel)]; kernel_rfl) | (rw [if_neg (by decide +kernel)]; exact ⟨rfl, rfl⟩))
    (fun os started H enc _ F => by rw [OpenClaim.pre_eq_preRow]; exact lifted os started H enc F)
theorem plain (f : FuncId) (fn : Func) (hf : Tryd.pinned.checked.prog.funcNamed "jurat/juratlaw12.VaultOwn" = some f) (hfn : Tryd.pinned.checked.prog.funcs[f]? = some fn) :
    false = Tryd.pinned.checked.prog.looks [] ∧ ∀ (j : Nat) t, fn.params[j]? = some t → Tryd.pinned.checked.prog.wantsStandIn t = false := by
  obtain rfl : f = 6 := Option.some.inj ((show Tryd.prog.funcNamed "jurat/juratlaw12.VaultOwn" = some 6 by kernel_rfl).symm.trans hf) |>.symm
  obtain rfl : fn = Tryd.f6 := (Option.some.inj (Tryd.func6.symm.trans hfn)).symm
  refine ⟨by kernel_rfl, fun j t ht => ?_⟩
  rw [Tryd.params6] at ht
  have hm := Array.mem_of_getElem? ht
  simp only [List.mem_toArray, List.mem_cons, List.not_mem_nil, or_false] at hm
  rcases hm with rfl
  · exact (show Tryd.prog.wantsStandIn 22 = false by kernel_rfl)
/-- THE CARD -/
theorem cardUpto : Rows.VaultOwnUptoCardSaid :=
  Claim7.holds_tied_plain_at .later [] _ _ _ _ said (fun _ h => by cases h) (by kernel_rfl) (fun _ h => by cases h) vaultOwnUpto_row_tie rfl ⟨rfl, rfl⟩ (by kernel_rfl) rfl plain (by kernel_rfl)
end vaultOwn
end Go.Proofs.YthhdilafnfcpbaaDoor
