/- Layer 3 (mac): seeds. -/
import Derived.Test.YtnnkgdijaekcfaaGreatDoorBi
import Derived.Test.YtnnkgdijaekcfaaGreatDoorMza
namespace Go.Proofs.YtnnkgdijaekcfaaGreatDoor
open Go
set_option linter.unusedVariables false
set_option linter.unusedSimpArgs false
set_option maxRecDepth 100000

theorem seed_any {w0 : World} {lv : Nat} (hg : Gl lv w0) (k : Bs) (st : ByteArray) (n : Int) (hk : k.length = 32) (hst : st.size ≤ 1000) :
    Calls Tryz.prog 49 #[(.agg (k.map B8).toArray), (.string st), I n] w0 (Ret fun r w' => r = .agg ((macV k (sBytes st ++ [0#8] ++ beB (BitVec.ofInt 64 n) 8)).map B8).toArray ∧ HS [] w0 w' []) := by
 have hH := HS.start w0
 refine start (n := 23) (E := [(0, _), (1, _), (2, _)]) Tryz.func49 rfl rfl rfl (args_look rfl) ?_
 intro a hA
 have hsb : (sBytes st).length = st.size := sBytes_length st
 have hbe := beB_length (BitVec.ofInt 64 n) 8
 refine wp_seq_k fun K1 hK1 => ?_
 refine wp_region_lit ?_
 refine sl hA (lo_boxA hH rfl) rfl ?_
 clear hH; rintro _ w ⟨b_t3, rfl, hH⟩ a hA
 refine sl hA (lo_allocA hH ti25) rfl ?_
 clear hH; rintro _ w ⟨b_t6, rfl, hH⟩ a hA
 refine wpList_nil ?_
 refine hK1 _ _ ?_
 clear hK1
 replace hA := hA.s4 6 3 1 2
 refine wp_seq_k fun K2 hK2 => ?_
 refine wp_region_lit ?_
 refine mv hA fun a hA => ?_
 refine sq hA (q_cvI64 Tryz.underlying3 Tryz.underlying97 rfl) rfl fun a hA => ?_
 refine sl hA (lo_call fn83 rfl (bytes_any _ 8 (by decide))) rfl ?_
 rintro _ w ⟨v_t12, N_t12, rfl, hO_t12, hC⟩ a hA
 replace hH := HS.call0 hH hC
 clear hC
 refine mv hA fun a hA => ?_
 refine sq hA (q_extract rfl rfl) rfl fun a hA => ?_
 refine sq hA (q_extract rfl rfl) rfl fun a hA => ?_
 refine asg hA fun a hA => ?_
 refine asg hA fun a hA => ?_
 refine wpList_nil ?_
 refine hK2 _ _ ?_
 clear hK2
 replace hA := hA.s4 7 6 3 1
 refine wp_seq_k fun K3 hK3 => ?_
 refine any_go mixed (fun j => !(Nat.beq j 2 || Nat.beq j 3 || Nat.beq j 4 || Nat.beq j 6 || Nat.beq j 7 || Nat.beq j 8)) hH ?_
 clear hH; intro w hH
 have hS := hH
 refine any_l 9 ?_
 refine p0 hA 0 1 rfl (fun w => (q_sliceAll Tryz.underlying25 ti5 rfl)) fun a hA => ?_
 refine p0 hA 1 3 rfl (fun w => (q_move rfl)) fun a hA => ?_
 refine p0 hA 5 35 rfl (fun w => (q_move rfl)) fun a hA => ?_
 refine a_ch2 (i := 2) (j := 3) (by kernel_rfl) ?_ ?_
 ·skip
  refine o1n hA 2 39 rfl (lo_strBytes hH Tryz.underlying9 Tryz.underlying41 Tryz.underlying5 rfl) ?_
  clear hH; rintro v_t17 w ⟨N_t17, hO_t17, hH⟩
  replace hO_t17 := Own.toS hO_t17
  intro a hA
  refine a1n hA 3 47 rfl (lo_bs (f := B8) (e := 5) ([0#8]) hH rfl rfl (fun w => by kernel_rfl)) ?_
  clear hH; rintro v_t18 w ⟨N_t18, hO_t18, hH⟩
  intro a hA
  replace hH := hH.pick [1, 0, 2, 3, 4] (Hs' := [_, _, _, _, _]) rfl
  refine a1n hA 4 63 rfl (lo_appm hH Tryz.underlying41 Tryz.underlying41 (.inl rfl) ti5 rfl rfl rfl hO_t17 (Rd.src (Own.rd0 hO_t18 hH 1 rfl)) (one_B8 _) (by first | omega | (simp; omega) | (simp [hsb, hbe]; omega)) (by first | omega | (simp; omega) | (simp [hsb, hbe]; omega))) ?_
  clear hH; rintro v_t19 w ⟨N_t19, hO_t19, hH⟩
  intro a hA
  refine a1n hA 6 127 rfl (lo_appm hH Tryz.underlying41 Tryz.underlying41 (.inl rfl) ti5 rfl rfl rfl hO_t19 (Rd.src (Own.rd0 hO_t12 hH 2 rfl)) (one_B8 _) (by first | omega | (simp; omega) | (simp [hsb, hbe]; omega)) (by first | omega | (simp; omega) | (simp [hsb, hbe]; omega))) ?_
  clear hH; rintro v_t21 w ⟨N_t21, hO_t21, hH⟩
  intro a hA
  refine a1n hA 7 255 rfl (lo_call fn42 rfl (mac_any (hg.mono0 hH) _ _ k (sBytes st ++ [0#8] ++ beB (BitVec.ofInt 64 n) 8) (HS.byB hH 4 rfl hk) (Own.rd0 hO_t21 hH 0 rfl) (by omega) (by simp [hsb, hbe]; omega))) ?_
  rintro _ w ⟨rfl, hC⟩
  replace hH := HS.call0 hH hC
  clear hC
  intro a hA
  replace hH := hH.pick [3, 0, 1, 2, 4] (Hs' := [_, _, _, _, _]) rfl
  refine a0n hA 8 511 rfl (lo_storeAm hH ti25 rfl rfl (by first | rfl | (simp; done)) (by first | rfl | (simp; done)) (one_B8 _)) ?_
  clear hH; rintro _ w hH
  refine a_end (by kernel_rfl) ?_ _
  refine hK3 _ _ ?_
  clear hK3
  replace hA := hA.s1 6
  refine wp_ret ?_
  refine post_ret hA (res_c rfl hA rfl (resW hH 0 rfl Tryz.underlying25 rfl ti25 (by first | assumption | (rw [List.length_map]; assumption) | rfl | exact sha_length _ | (simp; done) | (simp [*]; done) | omega))) ?_
  replace hH := hH.pick [] (Hs' := []) rfl
  exact ⟨_, rfl, rfl, hH⟩
 ·skip
  refine o1n hA 3 43 rfl (lo_bs (f := B8) (e := 5) ([0#8]) hH rfl rfl (fun w => by kernel_rfl)) ?_
  clear hH; rintro v_t18 w ⟨N_t18, hO_t18, hH⟩
  intro a hA
  refine a1n hA 2 47 rfl (lo_strBytes hH Tryz.underlying9 Tryz.underlying41 Tryz.underlying5 rfl) ?_
  clear hH; rintro v_t17 w ⟨N_t17, hO_t17, hH⟩
  replace hO_t17 := Own.toS hO_t17
  intro a hA
  refine a1n hA 4 63 rfl (lo_appm hH Tryz.underlying41 Tryz.underlying41 (.inl rfl) ti5 rfl rfl rfl hO_t17 (Rd.src (Own.rd0 hO_t18 hH 1 rfl)) (one_B8 _) (by first | omega | (simp; omega) | (simp [hsb, hbe]; omega)) (by first | omega | (simp; omega) | (simp [hsb, hbe]; omega))) ?_
  clear hH; rintro v_t19 w ⟨N_t19, hO_t19, hH⟩
  intro a hA
  refine a1n hA 6 127 rfl (lo_appm hH Tryz.underlying41 Tryz.underlying41 (.inl rfl) ti5 rfl rfl rfl hO_t19 (Rd.src (Own.rd0 hO_t12 hH 2 rfl)) (one_B8 _) (by first | omega | (simp; omega) | (simp [hsb, hbe]; omega)) (by first | omega | (simp; omega) | (simp [hsb, hbe]; omega))) ?_
  clear hH; rintro v_t21 w ⟨N_t21, hO_t21, hH⟩
  intro a hA
  refine a1n hA 7 255 rfl (lo_call fn42 rfl (mac_any (hg.mono0 hH) _ _ k (sBytes st ++ [0#8] ++ beB (BitVec.ofInt 64 n) 8) (HS.byB hH 4 rfl hk) (Own.rd0 hO_t21 hH 0 rfl) (by omega) (by simp [hsb, hbe]; omega))) ?_
  rintro _ w ⟨rfl, hC⟩
  replace hH := HS.call0 hH hC
  clear hC
  intro a hA
  replace hH := hH.pick [3, 0, 1, 2, 4] (Hs' := [_, _, _, _, _]) rfl
  refine a0n hA 8 511 rfl (lo_storeAm hH ti25 rfl rfl (by first | rfl | (simp; done)) (by first | rfl | (simp; done)) (one_B8 _)) ?_
  clear hH; rintro _ w hH
  refine a_end (by kernel_rfl) ?_ _
  refine hK3 _ _ ?_
  clear hK3
  replace hA := hA.s1 6
  refine wp_ret ?_
  refine post_ret hA (res_c rfl hA rfl (resW hH 0 rfl Tryz.underlying25 rfl ti25 (by first | assumption | (rw [List.length_map]; assumption) | rfl | exact sha_length _ | (simp; done) | (simp [*]; done) | omega))) ?_
  replace hH := hH.pick [] (Hs' := []) rfl
  exact ⟨_, rfl, rfl, hH⟩

theorem refseed_any {w0 : World} {lv : Nat} (hg : Gl (lv + 2) w0) (k : Bs) (st : ByteArray) (n : Int) (hk : k.length = 32) (hst : st.size ≤ 1000) :
    Calls Tryz.prog 56 #[(.agg (k.map B8).toArray), (.string st), I n] w0 (Ret fun r w' => r = .agg ((macV k (sBytes st ++ [0#8] ++ beB (BitVec.ofInt 64 n) 8)).map B8).toArray ∧ HS [] w0 w' []) := by
 have hH := HS.start w0
 refine start (n := 27) (E := [(0, _), (1, _), (2, _)]) Tryz.func56 rfl rfl rfl (args_look rfl) ?_
 intro a hA
 have hsb : (sBytes st).length = st.size := sBytes_length st
 have hbe := beB_length (BitVec.ofInt 64 n) 8
 refine wp_seq_k fun K1 hK1 => ?_
 refine wp_region_lit ?_
 refine sl hA (lo_boxA hH rfl) rfl ?_
 clear hH; rintro _ w ⟨b_t3, rfl, hH⟩ a hA
 refine sl hA (lo_allocA hH ti25) rfl ?_
 clear hH; rintro _ w ⟨b_t6, rfl, hH⟩ a hA
 refine wpList_nil ?_
 refine hK1 _ _ ?_
 clear hK1
 replace hA := hA.s4 6 3 1 2
 refine wp_seq_k fun K2 hK2 => ?_
 refine wp_region_lit ?_
 refine mv hA fun a hA => ?_
 refine sl hA (lo_strBytes hH Tryz.underlying9 Tryz.underlying41 Tryz.underlying5 rfl) rfl ?_
 clear hH; rintro v_t11 w ⟨N_t11, hO_t11, hH⟩ a hA
 replace hO_t11 := Own.toS hO_t11
 refine sl hA (lo_bs (f := B8) (e := 5) ([0#8]) hH rfl rfl (fun w => by kernel_rfl)) rfl ?_
 clear hH; rintro v_t12 w ⟨N_t12, hO_t12, hH⟩ a hA
 replace hH := hH.pick [1, 0, 2, 3] (Hs' := [_, _, _, _]) rfl
 refine sl hA (lo_appm hH Tryz.underlying41 Tryz.underlying41 (.inl rfl) ti5 rfl rfl rfl hO_t11 (Rd.src (Own.rd0 hO_t12 hH 1 rfl)) (one_B8 _) (by first | omega | (simp; omega) | (simp [hsb, hbe]; omega)) (by first | omega | (simp; omega) | (simp [hsb, hbe]; omega))) rfl ?_
 clear hH; rintro v_t13 w ⟨N_t13, hO_t13, hH⟩ a hA
 refine asg hA fun a hA => ?_
 refine wpList_nil ?_
 refine hK2 _ _ ?_
 clear hK2
 replace hA := hA.s4 7 6 3 2
 refine wp_seq_k fun K3 hK3 => ?_
 refine wp_region_lit ?_
 refine mv hA fun a hA => ?_
 refine sq hA (q_cvI64 Tryz.underlying3 Tryz.underlying97 rfl) rfl fun a hA => ?_
 refine sl hA (lo_call fn97 rfl (refbytes_any _ 8 (by decide))) rfl ?_
 rintro _ w ⟨v_t17, N_t17, rfl, hO_t17, hC⟩ a hA
 replace hH := HS.call0 hH hC
 clear hC
 refine mv hA fun a hA => ?_
 refine sq hA (q_extract rfl rfl) rfl fun a hA => ?_
 refine sq hA (q_extract rfl rfl) rfl fun a hA => ?_
 refine asg hA fun a hA => ?_
 refine asg hA fun a hA => ?_
 refine wpList_nil ?_
 refine hK3 _ _ ?_
 clear hK3
 replace hA := hA.s4 8 7 6 3
 refine wp_seq_k fun K4 hK4 => ?_
 refine wp_region_lit ?_
 refine mv hA fun a hA => ?_
 refine mv hA fun a hA => ?_
 replace hH := hH.pick [1, 0, 2, 3, 4] (Hs' := [_, _, _, _, _]) rfl
 refine sl hA (lo_appm hH Tryz.underlying41 Tryz.underlying41 (.inl rfl) ti5 rfl rfl rfl hO_t13 (Rd.src (Own.rd0 hO_t17 hH 1 rfl)) (one_B8 _) (by first | omega | (simp; omega) | (simp [hsb, hbe]; omega)) (by first | omega | (simp; omega) | (simp [hsb, hbe]; omega))) rfl ?_
 clear hH; rintro v_t22 w ⟨N_t22, hO_t22, hH⟩ a hA
 refine asg hA fun a hA => ?_
 refine wpList_nil ?_
 refine hK4 _ _ ?_
 clear hK4
 replace hA := hA.s3 7 6 3
 refine wp_seq_k fun K5 hK5 => ?_
 refine wp_region_lit ?_
 refine sq hA (q_loadW hH 4 rfl Tryz.underlying25 rfl ti25 rfl (by first | omega | (simp; done) | (simp; omega) | (rw [List.length_map]; assumption) | assumption | rfl | (simp [*]; done) | (simp [*]; omega))) rfl fun a hA => ?_
 refine sl hA (lo_call fn60 rfl (refdigest_any k hk)) rfl ?_
 rintro _ w ⟨v_t24, N_t24, rfl, hO_t24, hC⟩ a hA
 replace hH := HS.call0 hH hC
 clear hC
 refine mv hA fun a hA => ?_
 refine sl hA (lo_call fn61 rfl (refmac_any (hg.mono0 hH) _ _ (k) (sBytes st ++ [0#8] ++ beB (BitVec.ofInt 64 n) 8) (Own.rd0 hO_t24 hH 0 rfl) (Own.rd0 hO_t22 hH 1 rfl) (by omega) (by simp [hsb, hbe]; omega))) rfl ?_
 rintro _ w ⟨rfl, hC⟩ a hA
 replace hH := HS.call0 hH hC
 clear hC
 replace hH := hH.pick [4, 0, 1, 2, 3, 5] (Hs' := [_, _, _, _, _, _]) rfl
 refine s0 hA (lo_storeAm hH ti25 rfl rfl (by first | rfl | (simp; done)) (by first | rfl | (simp; done)) (one_B8 _)) ?_
 clear hH; rintro _ w hH
 refine wpList_nil ?_
 refine hK5 _ _ ?_
 clear hK5
 replace hA := hA.s1 6
 refine wp_ret ?_
 refine post_ret hA (res_c rfl hA rfl (resW hH 0 rfl Tryz.underlying25 rfl ti25 (by first | assumption | (rw [List.length_map]; assumption) | rfl | exact sha_length _ | (simp; done) | (simp [*]; done) | omega))) ?_
 replace hH := hH.pick [] (Hs' := []) rfl
 exact ⟨_, rfl, rfl, hH⟩

end Go.Proofs.YtnnkgdijaekcfaaGreatDoor
