/- Layer 3 (mac): seeds. -/
import Derived.Test.YtipjpbfledddaaaDoorBi
import Derived.Test.YtipjpbfledddaaaDoorMf
namespace Go.Proofs.YtipjpbfledddaaaDoor
open Go
set_option linter.unusedVariables false
set_option linter.unusedSimpArgs false
set_option maxRecDepth 100000

theorem seed_any {w0 : World} {lv : Nat} (hg : Gl lv w0) (k : Bs) (st : ByteArray) (n : Int) (hk : k.length = 32) (hst : st.size ≤ 1000) :
    Calls Tryd.prog 39 #[(.agg (k.map B8).toArray), (.string st), I n] w0 (Ret fun r w' => r = .agg ((macV k (sBytes st ++ [0#8] ++ beB (BitVec.ofInt 64 n) 8)).map B8).toArray ∧ HS [] w0 w' []) := by
  have hH := HS.start w0
  refine start (n := 23) (E := [(0, _), (1, _), (2, _)]) Tryd.func39 rfl rfl rfl (args_look rfl) ?_
  intro a hA
  have hsb : (sBytes st).length = st.size := sBytes_length st
  have hbe := beB_length (BitVec.ofInt 64 n) 8
  refine wp_seq_k fun K1 hK1 => ?_
  refine wp_region_lit ?_
  refine sl hA (lo_boxA hH rfl) rfl ?_
  clear hH; rintro _ w ⟨b_t3, rfl, hH⟩ a hA
  refine sl hA (lo_allocA hH ti23) rfl ?_
  clear hH; rintro _ w ⟨b_t6, rfl, hH⟩ a hA
  refine wpList_nil ?_
  refine hK1 _ _ ?_
  clear hK1
  replace hA := hA.sub (E' := [(6, _), (3, _), (1, _), (2, _)]) ⟨rfl, rfl, rfl, rfl, trivial⟩
  refine wp_seq_k fun K2 hK2 => ?_
  refine wp_region_lit ?_
  refine sq hA (q_move rfl) rfl fun a hA => ?_
  refine sq hA (q_cvI64 Tryd.underlying3 Tryd.underlying89 rfl) rfl fun a hA => ?_
  refine sl hA (lo_call fn70 rfl (bytes_any _ 8 (by decide))) rfl ?_
  rintro _ w ⟨v_t12, N_t12, rfl, hO_t12, hC⟩ a hA
  replace hH := HS.call0 hH hC
  clear hC
  refine sq hA (q_move rfl) rfl fun a hA => ?_
  refine sq hA (q_extract rfl rfl) rfl fun a hA => ?_
  refine sq hA (q_extract rfl rfl) rfl fun a hA => ?_
  refine sq hA (q_assign rfl) rfl fun a hA => ?_
  refine sq hA (q_assign rfl) rfl fun a hA => ?_
  refine wpList_nil ?_
  refine hK2 _ _ ?_
  clear hK2
  replace hA := hA.sub (E' := [(7, _), (6, _), (3, _), (1, _)]) ⟨rfl, rfl, rfl, rfl, trivial⟩
  refine wp_seq_k fun K3 hK3 => ?_
  refine any_go mixed (fun j => !(Nat.beq j 2 || Nat.beq j 3 || Nat.beq j 4 || Nat.beq j 6 || Nat.beq j 7 || Nat.beq j 8)) hH ?_
  clear hH; intro w hH
  have hS := hH
  change wpK _ _ _ _ _ _ 9 #[false, false, false, false, false, false, false, false, false] _ _
  refine apq hA 0 rfl (by kernel_rfl) (by intro c a d v w h; cases d <;> exact h) (fun w => (q_sliceAll Tryd.underlying23 ti5 rfl)) rfl (listed' := #[true, false, false, false, false, false, false, false, false]) rfl fun a hA => ?_
  refine apq hA 1 rfl (by kernel_rfl) (by intro c a d v w h; cases d <;> exact h) (fun w => (q_move rfl)) rfl (listed' := #[true, true, false, false, false, false, false, false, false]) rfl fun a hA => ?_
  refine apq hA 5 rfl (by kernel_rfl) (by intro c a d v w h; cases d <;> exact h) (fun w => (q_move rfl)) rfl (listed' := #[true, true, false, false, false, true, false, false, false]) rfl fun a hA => ?_
  refine a_ch2 (i := 2) (j := 3) (by kernel_rfl) ?_ ?_
  · skip
    refine oneL hA 2 rfl (lo_strBytes hH Tryd.underlying9 Tryd.underlying24 Tryd.underlying5 rfl) rfl (listed' := #[true, true, true, false, false, true, false, false, false]) rfl ?_
    clear hH; rintro v_t17 w ⟨N_t17, hO_t17, hH⟩
    replace hO_t17 := Own.toS hO_t17
    refine ⟨fun _ h => absurd h (by decide), ?_⟩
    intro a hA
    refine al hA 3 rfl (by kernel_rfl) (lo_bs (f := B8) (e := 5) ([0#8]) hH rfl rfl (fun w => by kernel_rfl)) rfl (listed' := #[true, true, true, true, false, true, false, false, false]) rfl ?_
    clear hH; rintro v_t18 w ⟨N_t18, hO_t18, hH⟩
    refine ⟨fun _ h => absurd h (by decide), ?_⟩
    intro a hA
    replace hH := hH.pick [1, 0, 2, 3, 4] (Hs' := [_, _, _, _, _]) rfl
    refine al hA 4 rfl (by kernel_rfl) (lo_appm hH Tryd.underlying24 Tryd.underlying24 (.inl rfl) ti5 rfl rfl rfl hO_t17 (Rd.src (Own.rd0 hO_t18 hH 1 rfl)) (one_B8 _) (by first | omega | (simp; omega) | (simp [hsb, hbe]; omega)) (by first | omega | (simp; omega) | (simp [hsb, hbe]; omega))) rfl (listed' := #[true, true, true, true, true, true, false, false, false]) rfl ?_
    clear hH; rintro v_t19 w ⟨N_t19, hO_t19, hH⟩
    refine ⟨fun _ h => absurd h (by decide), ?_⟩
    intro a hA
    refine al hA 6 rfl (by kernel_rfl) (lo_appm hH Tryd.underlying24 Tryd.underlying24 (.inl rfl) ti5 rfl rfl rfl hO_t19 (Rd.src (Own.rd0 hO_t12 hH 2 rfl)) (one_B8 _) (by first | omega | (simp; omega) | (simp [hsb, hbe]; omega)) (by first | omega | (simp; omega) | (simp [hsb, hbe]; omega))) rfl (listed' := #[true, true, true, true, true, true, true, false, false]) rfl ?_
    clear hH; rintro v_t21 w ⟨N_t21, hO_t21, hH⟩
    refine ⟨fun _ h => absurd h (by decide), ?_⟩
    intro a hA
    refine al hA 7 rfl (by kernel_rfl) (lo_call fn71 rfl (mac_any (hg.mono0 hH) _ _ k (sBytes st ++ [0#8] ++ beB (BitVec.ofInt 64 n) 8) (HS.byB hH 4 rfl hk) (Own.rd0 hO_t21 hH 0 rfl) (by omega) (by simp [hsb, hbe]; omega))) rfl (listed' := #[true, true, true, true, true, true, true, true, false]) rfl ?_
    rintro _ w ⟨rfl, hC⟩
    replace hH := HS.call0 hH hC
    clear hC
    refine ⟨fun _ h => absurd h (by decide), ?_⟩
    intro a hA
    replace hH := hH.pick [3, 0, 1, 2, 4] (Hs' := [_, _, _, _, _]) rfl
    refine al0 hA 8 rfl (by kernel_rfl) (lo_storeAm hH ti23 rfl rfl (by first | rfl | (simp; done)) (by first | rfl | (simp; done)) (one_B8 _)) (listed' := #[true, true, true, true, true, true, true, true, true]) rfl ?_
    clear hH; rintro _ w hH
    refine ⟨fun _ h => absurd h (by decide), ?_⟩
    refine a_end (by kernel_rfl) ?_ _
    refine hK3 _ _ ?_
    clear hK3
    replace hA := hA.sub (E' := [(6, _)]) ⟨rfl, trivial⟩
    refine wp_ret ?_
    refine post_ret hA (res_c rfl hA rfl (resW hH 0 rfl Tryd.underlying23 rfl ti23 (by first | assumption | (rw [List.length_map]; assumption) | rfl | exact sha_length _ | (simp; done) | (simp [*]; done) | omega))) ?_
    replace hH := hH.pick [] (Hs' := []) rfl
    exact ⟨_, rfl, rfl, hH⟩
  · skip
    refine oneL hA 3 rfl (lo_bs (f := B8) (e := 5) ([0#8]) hH rfl rfl (fun w => by kernel_rfl)) rfl (listed' := #[true, true, false, true, false, true, false, false, false]) rfl ?_
    clear hH; rintro v_t18 w ⟨N_t18, hO_t18, hH⟩
    refine ⟨fun _ h => absurd h (by decide), ?_⟩
    intro a hA
    refine al hA 2 rfl (by kernel_rfl) (lo_strBytes hH Tryd.underlying9 Tryd.underlying24 Tryd.underlying5 rfl) rfl (listed' := #[true, true, true, true, false, true, false, false, false]) rfl ?_
    clear hH; rintro v_t17 w ⟨N_t17, hO_t17, hH⟩
    replace hO_t17 := Own.toS hO_t17
    refine ⟨fun _ h => absurd h (by decide), ?_⟩
    intro a hA
    refine al hA 4 rfl (by kernel_rfl) (lo_appm hH Tryd.underlying24 Tryd.underlying24 (.inl rfl) ti5 rfl rfl rfl hO_t17 (Rd.src (Own.rd0 hO_t18 hH 1 rfl)) (one_B8 _) (by first | omega | (simp; omega) | (simp [hsb, hbe]; omega)) (by first | omega | (simp; omega) | (simp [hsb, hbe]; omega))) rfl (listed' := #[true, true, true, true, true, true, false, false, false]) rfl ?_
    clear hH; rintro v_t19 w ⟨N_t19, hO_t19, hH⟩
    refine ⟨fun _ h => absurd h (by decide), ?_⟩
    intro a hA
    refine al hA 6 rfl (by kernel_rfl) (lo_appm hH Tryd.underlying24 Tryd.underlying24 (.inl rfl) ti5 rfl rfl rfl hO_t19 (Rd.src (Own.rd0 hO_t12 hH 2 rfl)) (one_B8 _) (by first | omega | (simp; omega) | (simp [hsb, hbe]; omega)) (by first | omega | (simp; omega) | (simp [hsb, hbe]; omega))) rfl (listed' := #[true, true, true, true, true, true, true, false, false]) rfl ?_
    clear hH; rintro v_t21 w ⟨N_t21, hO_t21, hH⟩
    refine ⟨fun _ h => absurd h (by decide), ?_⟩
    intro a hA
    refine al hA 7 rfl (by kernel_rfl) (lo_call fn71 rfl (mac_any (hg.mono0 hH) _ _ k (sBytes st ++ [0#8] ++ beB (BitVec.ofInt 64 n) 8) (HS.byB hH 4 rfl hk) (Own.rd0 hO_t21 hH 0 rfl) (by omega) (by simp [hsb, hbe]; omega))) rfl (listed' := #[true, true, true, true, true, true, true, true, false]) rfl ?_
    rintro _ w ⟨rfl, hC⟩
    replace hH := HS.call0 hH hC
    clear hC
    refine ⟨fun _ h => absurd h (by decide), ?_⟩
    intro a hA
    replace hH := hH.pick [3, 0, 1, 2, 4] (Hs' := [_, _, _, _, _]) rfl
    refine al0 hA 8 rfl (by kernel_rfl) (lo_storeAm hH ti23 rfl rfl (by first | rfl | (simp; done)) (by first | rfl | (simp; done)) (one_B8 _)) (listed' := #[true, true, true, true, true, true, true, true, true]) rfl ?_
    clear hH; rintro _ w hH
    refine ⟨fun _ h => absurd h (by decide), ?_⟩
    refine a_end (by kernel_rfl) ?_ _
    refine hK3 _ _ ?_
    clear hK3
    replace hA := hA.sub (E' := [(6, _)]) ⟨rfl, trivial⟩
    refine wp_ret ?_
    refine post_ret hA (res_c rfl hA rfl (resW hH 0 rfl Tryd.underlying23 rfl ti23 (by first | assumption | (rw [List.length_map]; assumption) | rfl | exact sha_length _ | (simp; done) | (simp [*]; done) | omega))) ?_
    replace hH := hH.pick [] (Hs' := []) rfl
    exact ⟨_, rfl, rfl, hH⟩

theorem refseed_any {w0 : World} {lv : Nat} (hg : Gl (lv + 2) w0) (k : Bs) (st : ByteArray) (n : Int) (hk : k.length = 32) (hst : st.size ≤ 1000) :
    Calls Tryd.prog 49 #[(.agg (k.map B8).toArray), (.string st), I n] w0 (Ret fun r w' => r = .agg ((macV k (sBytes st ++ [0#8] ++ beB (BitVec.ofInt 64 n) 8)).map B8).toArray ∧ HS [] w0 w' []) := by
  have hH := HS.start w0
  refine start (n := 27) (E := [(0, _), (1, _), (2, _)]) Tryd.func49 rfl rfl rfl (args_look rfl) ?_
  intro a hA
  have hsb : (sBytes st).length = st.size := sBytes_length st
  have hbe := beB_length (BitVec.ofInt 64 n) 8
  refine wp_seq_k fun K1 hK1 => ?_
  refine wp_region_lit ?_
  refine sl hA (lo_boxA hH rfl) rfl ?_
  clear hH; rintro _ w ⟨b_t3, rfl, hH⟩ a hA
  refine sl hA (lo_allocA hH ti23) rfl ?_
  clear hH; rintro _ w ⟨b_t6, rfl, hH⟩ a hA
  refine wpList_nil ?_
  refine hK1 _ _ ?_
  clear hK1
  replace hA := hA.sub (E' := [(6, _), (3, _), (1, _), (2, _)]) ⟨rfl, rfl, rfl, rfl, trivial⟩
  refine wp_seq_k fun K2 hK2 => ?_
  refine wp_region_lit ?_
  refine sq hA (q_move rfl) rfl fun a hA => ?_
  refine sl hA (lo_strBytes hH Tryd.underlying9 Tryd.underlying24 Tryd.underlying5 rfl) rfl ?_
  clear hH; rintro v_t11 w ⟨N_t11, hO_t11, hH⟩ a hA
  replace hO_t11 := Own.toS hO_t11
  refine sl hA (lo_bs (f := B8) (e := 5) ([0#8]) hH rfl rfl (fun w => by kernel_rfl)) rfl ?_
  clear hH; rintro v_t12 w ⟨N_t12, hO_t12, hH⟩ a hA
  replace hH := hH.pick [1, 0, 2, 3] (Hs' := [_, _, _, _]) rfl
  refine sl hA (lo_appm hH Tryd.underlying24 Tryd.underlying24 (.inl rfl) ti5 rfl rfl rfl hO_t11 (Rd.src (Own.rd0 hO_t12 hH 1 rfl)) (one_B8 _) (by first | omega | (simp; omega) | (simp [hsb, hbe]; omega)) (by first | omega | (simp; omega) | (simp [hsb, hbe]; omega))) rfl ?_
  clear hH; rintro v_t13 w ⟨N_t13, hO_t13, hH⟩ a hA
  refine sq hA (q_assign rfl) rfl fun a hA => ?_
  refine wpList_nil ?_
  refine hK2 _ _ ?_
  clear hK2
  replace hA := hA.sub (E' := [(7, _), (6, _), (3, _), (2, _)]) ⟨rfl, rfl, rfl, rfl, trivial⟩
  refine wp_seq_k fun K3 hK3 => ?_
  refine wp_region_lit ?_
  refine sq hA (q_move rfl) rfl fun a hA => ?_
  refine sq hA (q_cvI64 Tryd.underlying3 Tryd.underlying89 rfl) rfl fun a hA => ?_
  refine sl hA (lo_call fn83 rfl (refbytes_any _ 8 (by decide))) rfl ?_
  rintro _ w ⟨v_t17, N_t17, rfl, hO_t17, hC⟩ a hA
  replace hH := HS.call0 hH hC
  clear hC
  refine sq hA (q_move rfl) rfl fun a hA => ?_
  refine sq hA (q_extract rfl rfl) rfl fun a hA => ?_
  refine sq hA (q_extract rfl rfl) rfl fun a hA => ?_
  refine sq hA (q_assign rfl) rfl fun a hA => ?_
  refine sq hA (q_assign rfl) rfl fun a hA => ?_
  refine wpList_nil ?_
  refine hK3 _ _ ?_
  clear hK3
  replace hA := hA.sub (E' := [(8, _), (7, _), (6, _), (3, _)]) ⟨rfl, rfl, rfl, rfl, trivial⟩
  refine wp_seq_k fun K4 hK4 => ?_
  refine wp_region_lit ?_
  refine sq hA (q_move rfl) rfl fun a hA => ?_
  refine sq hA (q_move rfl) rfl fun a hA => ?_
  replace hH := hH.pick [1, 0, 2, 3, 4] (Hs' := [_, _, _, _, _]) rfl
  refine sl hA (lo_appm hH Tryd.underlying24 Tryd.underlying24 (.inl rfl) ti5 rfl rfl rfl hO_t13 (Rd.src (Own.rd0 hO_t17 hH 1 rfl)) (one_B8 _) (by first | omega | (simp; omega) | (simp [hsb, hbe]; omega)) (by first | omega | (simp; omega) | (simp [hsb, hbe]; omega))) rfl ?_
  clear hH; rintro v_t22 w ⟨N_t22, hO_t22, hH⟩ a hA
  refine sq hA (q_assign rfl) rfl fun a hA => ?_
  refine wpList_nil ?_
  refine hK4 _ _ ?_
  clear hK4
  replace hA := hA.sub (E' := [(7, _), (6, _), (3, _)]) ⟨rfl, rfl, rfl, trivial⟩
  refine wp_seq_k fun K5 hK5 => ?_
  refine wp_region_lit ?_
  refine sq hA (q_loadW hH 4 rfl Tryd.underlying23 rfl ti23 rfl (by first | omega | (simp; done) | (simp; omega) | (rw [List.length_map]; assumption) | assumption | rfl | (simp [*]; done) | (simp [*]; omega))) rfl fun a hA => ?_
  refine sl hA (lo_call fn61 rfl (refdigest_any k hk)) rfl ?_
  rintro _ w ⟨v_t24, N_t24, rfl, hO_t24, hC⟩ a hA
  replace hH := HS.call0 hH hC
  clear hC
  refine sq hA (q_move rfl) rfl fun a hA => ?_
  refine sl hA (lo_call fn84 rfl (refmac_any (hg.mono0 hH) _ _ (k) (sBytes st ++ [0#8] ++ beB (BitVec.ofInt 64 n) 8) (Own.rd0 hO_t24 hH 0 rfl) (Own.rd0 hO_t22 hH 1 rfl) (by omega) (by simp [hsb, hbe]; omega))) rfl ?_
  rintro _ w ⟨rfl, hC⟩ a hA
  replace hH := HS.call0 hH hC
  clear hC
  replace hH := hH.pick [4, 0, 1, 2, 3, 5] (Hs' := [_, _, _, _, _, _]) rfl
  refine s0 hA (lo_storeAm hH ti23 rfl rfl (by first | rfl | (simp; done)) (by first | rfl | (simp; done)) (one_B8 _)) ?_
  clear hH; rintro _ w hH
  refine wpList_nil ?_
  refine hK5 _ _ ?_
  clear hK5
  replace hA := hA.sub (E' := [(6, _)]) ⟨rfl, trivial⟩
  refine wp_ret ?_
  refine post_ret hA (res_c rfl hA rfl (resW hH 0 rfl Tryd.underlying23 rfl ti23 (by first | assumption | (rw [List.length_map]; assumption) | rfl | exact sha_length _ | (simp; done) | (simp [*]; done) | omega))) ?_
  replace hH := hH.pick [] (Hs' := []) rfl
  exact ⟨_, rfl, rfl, hH⟩

end Go.Proofs.YtipjpbfledddaaaDoor
