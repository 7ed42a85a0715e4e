/- The law VaultCrashes: what its row says where what it reads is of bulk at most 1048576, and its card, proved. -/
import Derived.Test.YthhdilafnfcpbaaDoorNa
import Derived.Test.YthhdilafnfcpbaaDoorNz
import Derived.Test.YthhdilafnfcpbaaDoorJu
import Derived.Test.YthhdilafnfcpbaaDoorCards
import Derived.Test.YthhdilafnfcpbaaDoorTie
import Derived.WalkKit
namespace Go.Proofs.YthhdilafnfcpbaaDoor
open Go Go.ChangeShapes Go.WideShapes Go.ChangeAt Go.RowKit
set_option maxRecDepth 100000
namespace vaultCrashes
theorem laidOut : laidOutB Tryd.prog = true := by kernel_rfl
theorem ownNone : ownKnob Tryd.prog.godebug = none := by kernel_rfl
theorem tables {W : World} (h : laidMetH Tryd.prog Rows.vaultCrashesUptoRow.laid W) : Gl 0 W :=
  ⟨fun h => absurd h (by decide),
   fun h => absurd h (by decide),
   gv_of_laid h "jurat/sha.k" kTab (g := 3) (t := 132) (e := 119) (n := 64) (by kernel_rfl) (by kernel_rfl) (by kernel_rfl) Tryd.underlying132 Tryd.underlying119 (by kernel_rfl) (by kernel_rfl),
   gv_of_laid h "jurat/sha.begin" iv (g := 1) (t := 120) (e := 119) (n := 8) (by kernel_rfl) (by kernel_rfl) (by kernel_rfl) Tryd.underlying120 Tryd.underlying119 (by kernel_rfl) (by kernel_rfl)⟩
theorem contract (H : Type) (enc : TypeId × Value → H) (W : World) (base : Nat) (args : Array Value) (ds gs : List (DataW H)) (before : List MemPlace)
    (hval : ∀ (j : Nat) t v, Tryd.f8.params[j]? = some t → args[j]? = some v → Value.okWide Tryd.prog W .any base t v)
    (hW : DataW.Whole enc Tryd.prog Tryd.f8.params.toList Rows.vaultCrashesSpec.vars false W args.toList ds gs before) (hk : Rows.uptoSmall H (ds ++ gs) = true) (hL : laidMetH Tryd.prog Rows.vaultCrashesUptoRow.laid W) :
    Calls Tryd.prog 8 args W fun e W' => ∃ v, e = .returned v ∧ Rows.vaultCrashesSpec.post enc Tryd.prog Tryd.f8 false true false false W args v W' := by
  have hW' := hW
  obtain ⟨p, q, hA0, hV, rfl, _, _⟩ := hW
  have hA : DataW.TrodAll enc Tryd.prog W 0 (fun _ => true) true Tryd.f8.params.toList args.toList ds p := hA0
  rw [Tryd.params8] at hA hval
  obtain ⟨v0, vs0, d0, ds0, p0, q0, ha0, rfl, rfl, h0, r0⟩ := trodAll_cons hA
  obtain ⟨v1, vs1, d1, ds1, p1, q1, ha1, rfl, rfl, h1, r1⟩ := trodAll_cons r0
  obtain ⟨v2, vs2, d2, ds2, p2, q2, ha2, rfl, rfl, h2, r2⟩ := trodAll_cons r1
  obtain ⟨rfl, rfl, rfl⟩ := trodAll_nil r2
  obtain rfl : args = #[v0, v1, v2] := by cases args; simp_all
  obtain ⟨rfl, rfl⟩ := trodVars_none hV
  have hsm : Rows.uptoBulkAll ([d0, d1, d2] ++ []) ≤ 1048576 := of_decide_eq_true hk
  simp only [List.append_nil, Rows.uptoBulkAll] at hsm
  obtain ⟨cl0, hc0, hcl0⟩ := open_calls Tryd.underlying22 (by kernel_rfl) Tryd.underlying39 rfl rfl rfl Tryd.underlying3 Tryd.underlying32 Tryd.underlying37 Tryd.underlying5 Tryd.underlying3 (by kernel_rfl) (by kernel_rfl) rfl rfl rfl (by kernel_rfl) (by kernel_rfl) (by kernel_rfl) rfl (hval 0 22 v0 rfl rfl) h0 (by omega)
  obtain ⟨n1, rfl, rfl, rfl, hw1⟩ := open_int Tryd.underlying3 (hval 1 3 v1 rfl rfl) h1
  obtain ⟨ks2, hks2, hkl2⟩ := open_islice Tryd.underlying37 Tryd.underlying3 (by kernel_rfl) (hval 2 37 v2 rfl rfl) h2
  refine (vaultCrashes_any (tables hL) v0 cl0 hc0 (by omega) n1 (i64_le hw1) v2 ks2 hks2 (by omega)).mono fun e W' h => ?_
  obtain ⟨r, rfl, rfl, hH⟩ := h
  exact ⟨_, rfl, post_true laidOut (by rw [Tryd.params8]; intro t ht; simp only [List.mem_cons, List.not_mem_nil, or_false] at ht; rcases ht with rfl | rfl | rfl <;> exact ⟨by kernel_rfl, of_decide_eq_true (by kernel_rfl)⟩) rfl Tryd.underlying4 hW' rfl rfl hH⟩
theorem laid_met (os : Os) : laidMetH Tryd.prog Rows.vaultCrashesUptoRow.laid ((World.laidAll Tryd.prog os Rows.vaultCrashesUptoRow.laid).forCall (fun _ _ => 0) ⟨#[], #[.slice none 0 0, .int .i64 0, .slice none 0 0], []⟩).memory := by
  refine laidMetH_iff.2 ⟨?_, ?_⟩
  · rw [show (Rows.vaultCrashesUptoRow.laid.filter fun x => x.2.handleName?.isNone) = Rows.vaultCrashesUptoRow.laid by kernel_rfl]
    exact laidMet_laidAll _ (by kernel_rfl) (by kernel_rfl)
  · rw [show (Rows.vaultCrashesUptoRow.laid.filter fun x => x.2.handleName?.isSome) = [] by kernel_rfl]
    exact fun x hx => by cases hx
theorem reads (os : Os) {H : Type} (enc : TypeId × Value → H) : ∃ places, DataW.whole enc Tryd.prog ((World.laidAll Tryd.prog os Rows.vaultCrashesUptoRow.laid).forCall (fun _ _ => 0) ⟨#[], #[.slice none 0 0, .int .i64 0, .slice none 0 0], []⟩).memory Tryd.f8.params.toList Rows.vaultCrashesSpec.vars false (#[.slice none 0 0, .int .i64 0, .slice none 0 0] : Array Value).toList 8 = some ([.nil, .lit (.int .i64 0), .nil], [], places) :=
  ⟨[], by kernel_rfl⟩
set_option maxRecDepth 100000 in
theorem lifted (os : Os) (started : os.Started) (H : Type) (enc : TypeId × Value → H) (F : Stop.Interp) :
    ReturnsInHanded {} Tryd.checked os 8 .any ((Rows.OpenSpec.upto Rows.vaultCrashesSpec).preRow enc Tryd.prog Tryd.f8 Rows.vaultCrashesUptoRow.domain false Rows.vaultCrashesUptoRow.laid) (((Rows.OpenSpec.upto Rows.vaultCrashesSpec).at F).post enc Tryd.prog Tryd.f8 false true false false) := by
  obtain ⟨places, hx⟩ := reads os enc
  refine returnsInHanded_of_row (C := Tryd.checked) (s := Rows.OpenSpec.upto Rows.vaultCrashesSpec) ownNone started (by kernel_rfl) Tryd.func8
    (witness_row_at (enc := enc) (C := Tryd.checked) false (World.laidAll Tryd.prog os Rows.vaultCrashesUptoRow.laid) #[.slice none 0 0, .int .i64 0, .slice none 0 0] (World.laidAll_os _ _ _) (by kernel_rfl) (by kernel_rfl) (by kernel_rfl)
      (OpenSpec.preRow_of_cond 8 hx (by kernel_rfl) (fun k hk => by cases hk; kernel_rfl) (by kernel_rfl) (laid_met os))) ?_
  intro W base args ds gs before hval hW _ hcond _ hL _ _
  exact contract H enc W base args ds gs before hval hW (hcond _ rfl) hL
theorem said : Rows.VaultCrashesUptoSaid :=
  OpenClaim.holds_of_cond 8 Tryd.f8 rfl rfl rfl rfl rfl rfl rfl ⟨rfl, rfl, rfl, rfl, rfl⟩ rfl rfl rfl rfl rfl (by kernel_rfl) Tryd.func8 (by kernel_rfl)
    (of_decide_eq_true (by kernel_rfl)) (by unfold Func.isWrapper; first | (rw [if_pos (by decide +kernel)]; kernel_rfl) | (rw [if_neg (by decide +kernel)]; exact ⟨rfl, rfl⟩))
    (fun os started H enc _ F => by rw [OpenClaim.pre_eq_preRow]; exact lifted os started H enc F)
theorem plain (f : FuncId) (fn : Func) (hf : Tryd.pinned.checked.prog.funcNamed "jurat/juratlaw12.VaultCrashes" = some f) (hfn : Tryd.pinned.checked.prog.funcs[f]? = some fn) :
    false = Tryd.pinned.checked.prog.looks [] ∧ ∀ (j : Nat) t, fn.params[j]? = some t → Tryd.pinned.checked.prog.wantsStandIn t = false := by
  obtain rfl : f = 8 := Option.some.inj ((show Tryd.prog.funcNamed "jurat/juratlaw12.VaultCrashes" = some 8 by kernel_rfl).symm.trans hf) |>.symm
  obtain rfl : fn = Tryd.f8 := (Option.some.inj (Tryd.func8.symm.trans hfn)).symm
  refine ⟨by kernel_rfl, fun j t ht => ?_⟩
  rw [Tryd.params8] at ht
  have hm := Array.mem_of_getElem? ht
  simp only [List.mem_toArray, List.mem_cons, List.not_mem_nil, or_false] at hm
  rcases hm with rfl | rfl | rfl
  · exact (show Tryd.prog.wantsStandIn 22 = false by kernel_rfl)
  · exact (show Tryd.prog.wantsStandIn 3 = false by kernel_rfl)
  · exact (show Tryd.prog.wantsStandIn 37 = false by kernel_rfl)
/-- THE CARD -/
theorem cardUpto : Rows.VaultCrashesUptoCardSaid :=
  Claim7.holds_tied_plain_at .later [] _ _ _ _ said (fun _ h => by cases h) (by kernel_rfl) (fun _ h => by cases h) vaultCrashesUpto_row_tie rfl ⟨rfl, rfl⟩ (by kernel_rfl) rfl plain (by kernel_rfl)
end vaultCrashes
end Go.Proofs.YthhdilafnfcpbaaDoor
