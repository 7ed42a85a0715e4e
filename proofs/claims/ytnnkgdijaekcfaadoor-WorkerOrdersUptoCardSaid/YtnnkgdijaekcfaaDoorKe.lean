/- Layer 22 (worker): the document's answer. -/
import Derived.Test.YtnnkgdijaekcfaaDoorKd
import Derived.Test.YtnnkgdijaekcfaaDoorMzc
namespace Go.Proofs.YtnnkgdijaekcfaaDoor
open Go
set_option linter.unusedVariables false
set_option linter.unusedSimpArgs false
set_option maxRecDepth 100000

theorem great22_any {w0 : World} (jj aa ii : Int) (tv pv : Value) (T Pl : Bs) (htv : By [] w0 tv T) (hpv : By [] w0 pv Pl) (hlT : T.length ≤ 1048576) (hlP : Pl.length ≤ 1048576) (nn : Bs) (hnn : nn.length = 32) :
    Calls Tryd.prog 34 #[(.agg (ordC jj aa ii tv pv nn).toArray)] w0 (Ret fun r w' => r = .bool (decide (300 < T.length ∨ 300 < Pl.length)) ∧ HS [] w0 w' []) := by
 have hH := HS.start w0
 refine start (n := 13) (E := [(0, _)]) Tryd.func34 rfl rfl rfl (args_look rfl) ?_
 intro a hA
 refine wp_seq_k fun K1 hK1 => ?_
 refine wp_region_lit ?_
 refine sl hA (lo_boxA hH rfl) rfl ?_
 clear hH; rintro _ w ⟨b_t1, rfl, hH⟩ a hA
 refine asg hA fun a hA => ?_
 refine wpList_nil ?_
 refine hK1 _ _ ?_
 clear hK1
 replace hA := hA.s2 2 1
 refine wp_seq_k fun K2 hK2 => ?_
 refine wp_region_lit ?_
 refine sq hA (q_fld 3 Tryd.underlying64 rfl rfl ti22 rfl) rfl fun a hA => ?_
 refine sq hA (q_loadB hH 0 rfl (List.mem_singleton.2 rfl) Tryd.underlying22 rfl rfl rfl) rfl fun a hA => ?_
 refine sq hA (q_len Tryd.underlying22 rfl (Rd.shp htv)) rfl fun a hA => ?_
 refine sq hA (q_gtrI (n := 300) rfl rfl) rfl fun a hA => ?_
 refine hA.spl (fun hs6 hA => ?_) (fun hs6 hA => ?_)
 ·skip
  refine mv hA fun a hA => ?_
  refine gs hA rfl rfl rfl rfl fun a hA => ?_
  refine gs hA rfl rfl rfl rfl fun a hA => ?_
  refine gs hA rfl rfl rfl rfl fun a hA => ?_
  refine gs hA rfl rfl rfl rfl fun a hA => ?_
  refine sq hA (q_pick_t rfl rfl) rfl fun a hA => ?_
  refine asg hA fun a hA => ?_
  refine wpList_nil ?_
  refine hK2 _ _ ?_
  clear hK2
  replace hA := hA.s1 2
  refine wp_ret ?_
  refine post_ret hA (res_1 rfl hA rfl) ?_
  replace hH := hH.pick [] (Hs' := []) rfl
  exact ⟨_, rfl, by congr 1; symm; first | exact decide_eq_false (by omega) | exact decide_eq_true (by omega) | exact decide_eq_decide.2 (by omega), hH⟩
 ·skip
  refine mv hA fun a hA => ?_
  refine gq hA rfl rfl (q_fld 4 Tryd.underlying64 rfl rfl ti22 rfl) rfl fun a hA => ?_
  refine gq hA rfl rfl (q_loadB hH 0 rfl (List.mem_singleton.2 rfl) Tryd.underlying22 rfl rfl rfl) rfl fun a hA => ?_
  refine gq hA rfl rfl (q_len Tryd.underlying22 rfl (Rd.shp hpv)) rfl fun a hA => ?_
  refine gq hA rfl rfl (q_gtrI (n := 300) rfl rfl) rfl fun a hA => ?_
  refine sq hA (q_pick_f rfl rfl) rfl fun a hA => ?_
  refine asg hA fun a hA => ?_
  refine wpList_nil ?_
  refine hK2 _ _ ?_
  clear hK2
  replace hA := hA.s1 2
  refine wp_ret ?_
  refine post_ret hA (res_1 rfl hA rfl) ?_
  replace hH := hH.pick [] (Hs' := []) rfl
  exact ⟨_, rfl, by congr 1; symm; first | exact decide_eq_false (by omega) | exact decide_eq_true (by omega) | exact decide_eq_decide.2 (by omega), hH⟩

theorem own22_any {w0 : World} (jj aa ii : Int) (tv pv : Value) (T Pl : Bs) (htv : By [] w0 tv T) (hpv : By [] w0 pv Pl) (hlT : T.length ≤ 1048576) (hlP : Pl.length ≤ 1048576) (nn : Bs) (hnn : nn.length = 32) :
    Calls Tryd.prog 37 #[(.agg (ordC jj aa ii tv pv nn).toArray)] w0 (Ret fun r w' => ∃ t p N1 N2, r = (.agg (ordC jj aa ii t p nn).toArray) ∧ Ow B8 5 t T N1 ∧ Ow B8 5 p Pl N2 ∧ HS [] w0 w' [N1, N2]) := by
 have hH := HS.start w0
 refine start (n := 14) (E := [(0, _)]) Tryd.func37 rfl rfl rfl (args_look rfl) ?_
 intro a hA
 refine wp_seq_k fun K1 hK1 => ?_
 refine wp_region_lit ?_
 refine sl hA (lo_boxA hH rfl) rfl ?_
 clear hH; rintro _ w ⟨b_t1, rfl, hH⟩ a hA
 refine sl hA (lo_allocA hH ti64) rfl ?_
 clear hH; rintro _ w ⟨b_t2, rfl, hH⟩ a hA
 refine wpList_nil ?_
 refine hK1 _ _ ?_
 clear hK1
 replace hA := hA.s2 2 1
 refine wp_seq_k fun K2 hK2 => ?_
 refine wp_region_lit ?_
 refine sl hA (lo_bs (f := B8) (e := 5) ([]) hH rfl rfl (fun w => by kernel_rfl)) rfl ?_
 clear hH; rintro v_t3 w ⟨N_t3, hO_t3, hH⟩ a hA
 refine sq hA (q_fld 3 Tryd.underlying64 rfl rfl ti22 rfl) rfl fun a hA => ?_
 refine sq hA (q_loadB hH 2 rfl (List.mem_singleton.2 rfl) Tryd.underlying22 rfl rfl rfl) rfl fun a hA => ?_
 refine sl hA (lo_appm hH Tryd.underlying22 Tryd.underlying22 (.inl rfl) ti5 rfl rfl rfl hO_t3 (Rd.src (hH.rd htv)) (one_B8 _) (by first | omega | (simp; done) | (simp; omega)) (by first | omega | (simp; done) | (simp; omega))) rfl ?_
 clear hH; rintro v_t6 w ⟨N_t6, hO_t6, hH⟩ a hA
 refine sq hA (q_fld 3 Tryd.underlying64 rfl rfl ti22 rfl) rfl fun a hA => ?_
 replace hH := hH.pick [2, 0, 1] (Hs' := [_, _, _]) rfl
 refine s0 hA (lo_store1 hH ti22 rfl rfl (by first | rfl | exact ordC_length hnn | (rw [ordC_length hnn]; decide)) (Own.one hO_t6)) ?_
 clear hH; rintro _ w hH
 rw [ordC_set3] at hH
 refine wpList_nil ?_
 refine hK2 _ _ ?_
 clear hK2
 replace hA := hA.s2 2 1
 refine wp_seq_k fun K3 hK3 => ?_
 refine wp_region_lit ?_
 refine sl hA (lo_bs (f := B8) (e := 5) ([]) hH rfl rfl (fun w => by kernel_rfl)) rfl ?_
 clear hH; rintro v_t8 w ⟨N_t8, hO_t8, hH⟩ a hA
 refine sq hA (q_fld 4 Tryd.underlying64 rfl rfl ti22 rfl) rfl fun a hA => ?_
 refine sq hA (q_loadB hH 1 rfl (List.mem_singleton.2 rfl) Tryd.underlying22 rfl rfl rfl) rfl fun a hA => ?_
 refine sl hA (lo_appm hH Tryd.underlying22 Tryd.underlying22 (.inl rfl) ti5 rfl rfl rfl hO_t8 (Rd.src (hH.rd hpv)) (one_B8 _) (by first | omega | (simp; done) | (simp; omega)) (by first | omega | (simp; done) | (simp; omega))) rfl ?_
 clear hH; rintro v_t11 w ⟨N_t11, hO_t11, hH⟩ a hA
 refine sq hA (q_fld 4 Tryd.underlying64 rfl rfl ti22 rfl) rfl fun a hA => ?_
 replace hH := hH.pick [1, 0, 2, 3] (Hs' := [_, _, _, _]) rfl
 refine s0 hA (lo_store1 hH ti22 rfl rfl (by first | rfl | exact ordC_length hnn | (rw [ordC_length hnn]; decide)) (Own.one hO_t11)) ?_
 clear hH; rintro _ w hH
 rw [ordC_set4] at hH
 refine wpList_nil ?_
 refine hK3 _ _ ?_
 clear hK3
 replace hA := hA.s2 2 1
 refine wp_seq_k fun K4 hK4 => ?_
 refine wp_region_lit ?_
 refine sq hA (q_loadW hH 0 rfl Tryd.underlying64 rfl ti64 rfl (by first | rfl | exact ordC_length hnn | (rw [ordC_length hnn]; decide))) rfl fun a hA => ?_
 replace hH := hH.pick [3, 0, 1, 2] (Hs' := [_, _, _, _]) rfl
 refine s0 hA (lo_storeAm hH ti64 rfl rfl (by first | rfl | exact ordC_length hnn | (rw [ordC_length hnn]; decide)) (by first | rfl | exact ordC_length hnn | (rw [ordC_length hnn]; decide)) (ordC_one (Own.one hO_t6) (Own.one hO_t11))) ?_
 clear hH; rintro _ w hH
 refine wpList_nil ?_
 refine hK4 _ _ ?_
 clear hK4
 replace hA := hA.s1 2
 refine wp_ret ?_
 refine post_ret hA (res_c rfl hA rfl (resW hH 0 rfl Tryd.underlying64 rfl ti64 (by first | rfl | exact ordC_length hnn | (rw [ordC_length hnn]; decide)))) ?_
 replace hH := hH.pick [3, 2, 0, 1] (Hs' := [_, _, _, _]) rfl
 replace hH := hH.pick [0, 1] (Hs' := [_, _]) rfl
 exact ⟨_, rfl, v_t6, v_t11, N_t6, N_t11, rfl, by simpa using hO_t6, by simpa using hO_t11, hH⟩

theorem refin22_any {w0 : World} (n : Int) :
    Calls Tryd.prog 100 #[I n] w0 (Ret fun r w' => r = .bool (decide (0 ≤ n ∧ n ≤ 1099511627776)) ∧ HS [] w0 w' []) := by
 have hH := HS.start w0
 refine start (n := 9) (E := [(0, _)]) Tryd.func100 rfl rfl rfl (args_look rfl) ?_
 intro a hA
 refine wp_seq_k fun K1 hK1 => ?_
 refine wp_region_lit ?_
 refine asg hA fun a hA => ?_
 refine wpList_nil ?_
 refine hK1 _ _ ?_
 clear hK1
 refine wp_seq_k fun K2 hK2 => ?_
 refine wp_region_lit ?_
 refine mv hA fun a hA => ?_
 refine sq hA (q_geqI (n := 0) rfl rfl) rfl fun a hA => ?_
 refine hA.spl (fun hs4 hA => ?_) (fun hs4 hA => ?_)
 ·skip
  refine mv hA fun a hA => ?_
  refine gq hA rfl rfl (q_move rfl) rfl fun a hA => ?_
  refine gq hA rfl rfl (q_leqI (n := 1099511627776) rfl rfl) rfl fun a hA => ?_
  refine sq hA (q_pick_t rfl rfl) rfl fun a hA => ?_
  refine asg hA fun a hA => ?_
  refine wpList_nil ?_
  refine hK2 _ _ ?_
  clear hK2
  replace hA := hA.s1 2
  refine wp_ret ?_
  refine post_ret hA (res_1 rfl hA rfl) ?_
  exact ⟨_, rfl, by congr 1; symm; first | exact decide_eq_false (by omega) | exact decide_eq_true (by omega) | exact decide_eq_decide.2 (by omega), hH⟩
 ·skip
  refine mv hA fun a hA => ?_
  refine gs hA rfl rfl rfl rfl fun a hA => ?_
  refine gs hA rfl rfl rfl rfl fun a hA => ?_
  refine sq hA (q_pick_f rfl rfl) rfl fun a hA => ?_
  refine asg hA fun a hA => ?_
  refine wpList_nil ?_
  refine hK2 _ _ ?_
  clear hK2
  replace hA := hA.s1 2
  refine wp_ret ?_
  refine post_ret hA (res_1 rfl hA rfl) ?_
  exact ⟨_, rfl, by congr 1; symm; first | exact decide_eq_false (by omega) | exact decide_eq_true (by omega) | exact decide_eq_decide.2 (by omega), hH⟩

theorem refmay22_any {w0 : World} (jj aa ii : Int) (tv pv : Value) (T Pl : Bs) (htv : By [] w0 tv T) (hpv : By [] w0 pv Pl) (hlT : T.length ≤ 1048576) (hlP : Pl.length ≤ 1048576) (nn : Bs) (hnn : nn.length = 32) :
    Calls Tryd.prog 52 #[(.agg (ordC jj aa ii tv pv nn).toArray)] w0 (Ret fun r w' => r = .bool (decide (MayO jj aa ii T Pl)) ∧ HS [] w0 w' []) := by
 have hH := HS.start w0
 refine start (n := 28) (E := [(0, _)]) Tryd.func52 rfl rfl rfl (args_look rfl) ?_
 intro a hA
 refine wp_seq_k fun K1 hK1 => ?_
 refine wp_region_lit ?_
 refine sl hA (lo_boxA hH rfl) rfl ?_
 clear hH; rintro _ w ⟨b_t1, rfl, hH⟩ a hA
 refine asg hA fun a hA => ?_
 refine wpList_nil ?_
 refine hK1 _ _ ?_
 clear hK1
 replace hA := hA.s2 2 1
 refine wp_seq_k fun K2 hK2 => ?_
 refine wp_region_lit ?_
 refine sq hA (q_fld 0 Tryd.underlying64 rfl rfl ti3 rfl) rfl fun a hA => ?_
 refine sq hA (q_loadB hH 0 rfl (List.mem_singleton.2 rfl) Tryd.underlying3 rfl rfl rfl) rfl fun a hA => ?_
 refine sl hA (lo_call fn100 rfl (refin22_any _)) rfl ?_
 rintro _ w ⟨rfl, hC⟩ a hA
 replace hH := HS.call0 hH hC
 clear hC
 refine hA.spl (fun hs5 hA => ?_) (fun hs5 hA => ?_)
 ·skip
  refine mv hA fun a hA => ?_
  refine gq hA rfl rfl (q_fld 1 Tryd.underlying64 rfl rfl ti3 rfl) rfl fun a hA => ?_
  refine gq hA rfl rfl (q_loadB hH 0 rfl (List.mem_singleton.2 rfl) Tryd.underlying3 rfl rfl rfl) rfl fun a hA => ?_
  refine gl hA rfl rfl (lo_call fn100 rfl (refin22_any _)) rfl ?_
  rintro _ w ⟨rfl, hC⟩ a hA
  replace hH := HS.call0 hH hC
  clear hC
  refine sq hA (q_pick_t rfl rfl) rfl fun a hA => ?_
  refine hA.spl (fun hs10 hA => ?_) (fun hs10 hA => ?_)
  ·skip
   refine mv hA fun a hA => ?_
   refine gq hA rfl rfl (q_fld 2 Tryd.underlying64 rfl rfl ti3 rfl) rfl fun a hA => ?_
   refine gq hA rfl rfl (q_loadB hH 0 rfl (List.mem_singleton.2 rfl) Tryd.underlying3 rfl rfl rfl) rfl fun a hA => ?_
   refine gl hA rfl rfl (lo_call fn100 rfl (refin22_any _)) rfl ?_
   rintro _ w ⟨rfl, hC⟩ a hA
   replace hH := HS.call0 hH hC
   clear hC
   refine sq hA (q_pick_t rfl rfl) rfl fun a hA => ?_
   refine hA.spl (fun hs15 hA => ?_) (fun hs15 hA => ?_)
   ·skip
    refine mv hA fun a hA => ?_
    refine gq hA rfl rfl (q_fld 3 Tryd.underlying64 rfl rfl ti22 rfl) rfl fun a hA => ?_
    refine gq hA rfl rfl (q_loadB hH 0 rfl (List.mem_singleton.2 rfl) Tryd.underlying22 rfl rfl rfl) rfl fun a hA => ?_
    refine gq hA rfl rfl (q_len Tryd.underlying22 rfl (Rd.shp htv)) rfl fun a hA => ?_
    refine gq hA rfl rfl (q_leqI (n := 100) rfl rfl) rfl fun a hA => ?_
    refine sq hA (q_pick_t rfl rfl) rfl fun a hA => ?_
    refine hA.spl (fun hs21 hA => ?_) (fun hs21 hA => ?_)
    ·skip
     refine mv hA fun a hA => ?_
     refine gq hA rfl rfl (q_fld 4 Tryd.underlying64 rfl rfl ti22 rfl) rfl fun a hA => ?_
     refine gq hA rfl rfl (q_loadB hH 0 rfl (List.mem_singleton.2 rfl) Tryd.underlying22 rfl rfl rfl) rfl fun a hA => ?_
     refine gq hA rfl rfl (q_len Tryd.underlying22 rfl (Rd.shp hpv)) rfl fun a hA => ?_
     refine gq hA rfl rfl (q_leqI (n := 64) rfl rfl) rfl fun a hA => ?_
     refine sq hA (q_pick_t rfl rfl) rfl fun a hA => ?_
     refine asg hA fun a hA => ?_
     refine wpList_nil ?_
     refine hK2 _ _ ?_
     clear hK2
     replace hA := hA.s1 2
     refine wp_ret ?_
     refine post_ret hA (res_1 rfl hA rfl) ?_
     replace hH := hH.pick [] (Hs' := []) rfl
     exact ⟨_, rfl, by congr 1; symm; first | exact decide_eq_false (by unfold MayO; omega) | exact decide_eq_true (by unfold MayO; omega) | exact decide_eq_decide.2 (by unfold MayO; omega), hH⟩
    ·skip
     refine mv hA fun a hA => ?_
     refine gs hA rfl rfl rfl rfl fun a hA => ?_
     refine gs hA rfl rfl rfl rfl fun a hA => ?_
     refine gs hA rfl rfl rfl rfl fun a hA => ?_
     refine gs hA rfl rfl rfl rfl fun a hA => ?_
     refine sq hA (q_pick_f rfl rfl) rfl fun a hA => ?_
     refine asg hA fun a hA => ?_
     refine wpList_nil ?_
     refine hK2 _ _ ?_
     clear hK2
     replace hA := hA.s1 2
     refine wp_ret ?_
     refine post_ret hA (res_1 rfl hA rfl) ?_
     replace hH := hH.pick [] (Hs' := []) rfl
     exact ⟨_, rfl, by congr 1; symm; first | exact decide_eq_false (by unfold MayO; omega) | exact decide_eq_true (by unfold MayO; omega) | exact decide_eq_decide.2 (by unfold MayO; omega), hH⟩
   ·skip
    refine mv hA fun a hA => ?_
    refine gs hA rfl rfl rfl rfl fun a hA => ?_
    refine gs hA rfl rfl rfl rfl fun a hA => ?_
    refine gs hA rfl rfl rfl rfl fun a hA => ?_
    refine gs hA rfl rfl rfl rfl fun a hA => ?_
    refine sq hA (q_pick_f rfl rfl) rfl fun a hA => ?_
    refine mv hA fun a hA => ?_
    refine gs hA rfl rfl rfl rfl fun a hA => ?_
    refine gs hA rfl rfl rfl rfl fun a hA => ?_
    refine gs hA rfl rfl rfl rfl fun a hA => ?_
    refine gs hA rfl rfl rfl rfl fun a hA => ?_
    refine sq hA (q_pick_f rfl rfl) rfl fun a hA => ?_
    refine asg hA fun a hA => ?_
    refine wpList_nil ?_
    refine hK2 _ _ ?_
    clear hK2
    replace hA := hA.s1 2
    refine wp_ret ?_
    refine post_ret hA (res_1 rfl hA rfl) ?_
    replace hH := hH.pick [] (Hs' := []) rfl
    exact ⟨_, rfl, by congr 1; symm; first | exact decide_eq_false (by unfold MayO; omega) | exact decide_eq_true (by unfold MayO; omega) | exact decide_eq_decide.2 (by unfold MayO; omega), hH⟩
  ·skip
   refine mv hA fun a hA => ?_
   refine gs hA rfl rfl rfl rfl fun a hA => ?_
   refine gs hA rfl rfl rfl rfl fun a hA => ?_
   refine gs hA rfl rfl rfl rfl fun a hA => ?_
   refine sq hA (q_pick_f rfl rfl) rfl fun a hA => ?_
   refine mv hA fun a hA => ?_
   refine gs hA rfl rfl rfl rfl fun a hA => ?_
   refine gs hA rfl rfl rfl rfl fun a hA => ?_
   refine gs hA rfl rfl rfl rfl fun a hA => ?_
   refine gs hA rfl rfl rfl rfl fun a hA => ?_
   refine sq hA (q_pick_f rfl rfl) rfl fun a hA => ?_
   refine mv hA fun a hA => ?_
   refine gs hA rfl rfl rfl rfl fun a hA => ?_
   refine gs hA rfl rfl rfl rfl fun a hA => ?_
   refine gs hA rfl rfl rfl rfl fun a hA => ?_
   refine gs hA rfl rfl rfl rfl fun a hA => ?_
   refine sq hA (q_pick_f rfl rfl) rfl fun a hA => ?_
   refine asg hA fun a hA => ?_
   refine wpList_nil ?_
   refine hK2 _ _ ?_
   clear hK2
   replace hA := hA.s1 2
   refine wp_ret ?_
   refine post_ret hA (res_1 rfl hA rfl) ?_
   replace hH := hH.pick [] (Hs' := []) rfl
   exact ⟨_, rfl, by congr 1; symm; first | exact decide_eq_false (by unfold MayO; omega) | exact decide_eq_true (by unfold MayO; omega) | exact decide_eq_decide.2 (by unfold MayO; omega), hH⟩
 ·skip
  refine mv hA fun a hA => ?_
  refine gs hA rfl rfl rfl rfl fun a hA => ?_
  refine gs hA rfl rfl rfl rfl fun a hA => ?_
  refine gs hA rfl rfl rfl rfl fun a hA => ?_
  refine sq hA (q_pick_f rfl rfl) rfl fun a hA => ?_
  refine mv hA fun a hA => ?_
  refine gs hA rfl rfl rfl rfl fun a hA => ?_
  refine gs hA rfl rfl rfl rfl fun a hA => ?_
  refine gs hA rfl rfl rfl rfl fun a hA => ?_
  refine sq hA (q_pick_f rfl rfl) rfl fun a hA => ?_
  refine mv hA fun a hA => ?_
  refine gs hA rfl rfl rfl rfl fun a hA => ?_
  refine gs hA rfl rfl rfl rfl fun a hA => ?_
  refine gs hA rfl rfl rfl rfl fun a hA => ?_
  refine gs hA rfl rfl rfl rfl fun a hA => ?_
  refine sq hA (q_pick_f rfl rfl) rfl fun a hA => ?_
  refine mv hA fun a hA => ?_
  refine gs hA rfl rfl rfl rfl fun a hA => ?_
  refine gs hA rfl rfl rfl rfl fun a hA => ?_
  refine gs hA rfl rfl rfl rfl fun a hA => ?_
  refine gs hA rfl rfl rfl rfl fun a hA => ?_
  refine sq hA (q_pick_f rfl rfl) rfl fun a hA => ?_
  refine asg hA fun a hA => ?_
  refine wpList_nil ?_
  refine hK2 _ _ ?_
  clear hK2
  replace hA := hA.s1 2
  refine wp_ret ?_
  refine post_ret hA (res_1 rfl hA rfl) ?_
  replace hH := hH.pick [] (Hs' := []) rfl
  exact ⟨_, rfl, by congr 1; symm; first | exact decide_eq_false (by unfold MayO; omega) | exact decide_eq_true (by unfold MayO; omega) | exact decide_eq_decide.2 (by unfold MayO; omega), hH⟩

theorem refbody22_any {w0 : World} (jj aa ii : Int) (tv pv : Value) (T Pl : Bs) (htv : By [] w0 tv T) (hpv : By [] w0 pv Pl) (hlT : T.length ≤ 1048576) (hlP : Pl.length ≤ 1048576) (nn : Bs) (hnn : nn.length = 32) (hM : MayO jj aa ii T Pl) :
    Calls Tryd.prog 83 #[(.agg (ordC jj aa ii tv pv nn).toArray)] w0 (Ret fun r w' => ∃ v' N, v' = r ∧ Ow B8 5 v' (bodyO jj.toNat aa.toNat ii.toNat T Pl nn) N ∧ HS [] w0 w' [N]) := by
 have hH := HS.start w0
 refine start (n := 35) (E := [(0, _)]) Tryd.func83 rfl rfl rfl (args_look rfl) ?_
 intro a hA
 obtain ⟨⟨y1, y2⟩, ⟨y3, y4⟩, ⟨y5, y6⟩, y7, y8⟩ := hM
 have w1 := wd_le (n := jj.toNat) (by omega)
 have w2 := wd_le (n := aa.toNat) (by omega)
 have w3 := wd_le (n := ii.toNat) (by omega)
 have w4 := wtext_len9 hlT
 have w5 := wtext_len9 hlP
 have w6 := wnum_length jj.toNat
 have w7 := wnum_length aa.toNat
 have w8 := wnum_length ii.toNat
 refine wp_seq_k fun K1 hK1 => ?_
 refine wp_region_lit ?_
 refine sl hA (lo_boxA hH rfl) rfl ?_
 clear hH; rintro _ w ⟨b_t1, rfl, hH⟩ a hA
 refine asg hA fun a hA => ?_
 refine wpList_nil ?_
 refine hK1 _ _ ?_
 clear hK1
 replace hA := hA.s2 2 1
 refine wp_seq_k fun K2 hK2 => ?_
 refine wp_region_lit ?_
 refine sq hA (q_fld 0 Tryd.underlying64 rfl rfl ti3 rfl) rfl fun a hA => ?_
 refine sq hA (q_loadB hH 0 rfl (List.mem_singleton.2 rfl) Tryd.underlying3 rfl rfl rfl) rfl fun a hA => ?_
 refine sq hA (q_cvI64 Tryd.underlying3 Tryd.underlying99 rfl) rfl fun a hA => ?_
 refine sl hA (lo_call fn55 rfl (refwnum_any _)) rfl ?_
 rintro _ w ⟨v_t7, N_t7, rfl, hO_t7, hC⟩ a hA
 replace hH := HS.call0 hH hC
 clear hC
 rw [toNat_ofIntN (by omega)] at hO_t7
 refine asg hA fun a hA => ?_
 refine wpList_nil ?_
 refine hK2 _ _ ?_
 clear hK2
 replace hA := hA.s3 3 2 1
 refine wp_seq_k fun K3 hK3 => ?_
 refine wp_region_lit ?_
 refine mv hA fun a hA => ?_
 refine sq hA (q_fld 1 Tryd.underlying64 rfl rfl ti3 rfl) rfl fun a hA => ?_
 refine sq hA (q_loadB hH 1 rfl (List.mem_singleton.2 rfl) Tryd.underlying3 rfl rfl rfl) rfl fun a hA => ?_
 refine sq hA (q_cvI64 Tryd.underlying3 Tryd.underlying99 rfl) rfl fun a hA => ?_
 refine sl hA (lo_call fn55 rfl (refwnum_any _)) rfl ?_
 rintro _ w ⟨v_t12, N_t12, rfl, hO_t12, hC⟩ a hA
 replace hH := HS.call0 hH hC
 clear hC
 rw [toNat_ofIntN (by omega)] at hO_t12
 replace hH := hH.pick [1, 0, 2] (Hs' := [_, _, _]) rfl
 refine sl hA (lo_appm hH Tryd.underlying22 Tryd.underlying22 (.inl rfl) ti5 rfl rfl rfl hO_t7 (Rd.src (Own.rd0 hO_t12 hH 1 rfl)) (one_B8 _) (by first | omega | (simp only [List.length_append, List.length_nil, hnn, macV_length]; omega)) (by first | omega | (simp only [List.length_append, List.length_nil, hnn, macV_length]; omega))) rfl ?_
 clear hH; rintro v_t13 w ⟨N_t13, hO_t13, hH⟩ a hA
 refine asg hA fun a hA => ?_
 refine wpList_nil ?_
 refine hK3 _ _ ?_
 clear hK3
 replace hA := hA.s3 3 2 1
 refine wp_seq_k fun K4 hK4 => ?_
 refine wp_region_lit ?_
 refine mv hA fun a hA => ?_
 refine sq hA (q_fld 2 Tryd.underlying64 rfl rfl ti3 rfl) rfl fun a hA => ?_
 refine sq hA (q_loadB hH 2 rfl (List.mem_singleton.2 rfl) Tryd.underlying3 rfl rfl rfl) rfl fun a hA => ?_
 refine sq hA (q_cvI64 Tryd.underlying3 Tryd.underlying99 rfl) rfl fun a hA => ?_
 refine sl hA (lo_call fn55 rfl (refwnum_any _)) rfl ?_
 rintro _ w ⟨v_t18, N_t18, rfl, hO_t18, hC⟩ a hA
 replace hH := HS.call0 hH hC
 clear hC
 rw [toNat_ofIntN (by omega)] at hO_t18
 replace hH := hH.pick [1, 0, 2, 3] (Hs' := [_, _, _, _]) rfl
 refine sl hA (lo_appm hH Tryd.underlying22 Tryd.underlying22 (.inl rfl) ti5 rfl rfl rfl hO_t13 (Rd.src (Own.rd0 hO_t18 hH 1 rfl)) (one_B8 _) (by first | omega | (simp only [List.length_append, List.length_nil, hnn, macV_length]; omega)) (by first | omega | (simp only [List.length_append, List.length_nil, hnn, macV_length]; omega))) rfl ?_
 clear hH; rintro v_t19 w ⟨N_t19, hO_t19, hH⟩ a hA
 refine asg hA fun a hA => ?_
 refine wpList_nil ?_
 refine hK4 _ _ ?_
 clear hK4
 replace hA := hA.s3 3 2 1
 refine wp_seq_k fun K5 hK5 => ?_
 refine wp_region_lit ?_
 refine mv hA fun a hA => ?_
 refine sq hA (q_fld 3 Tryd.underlying64 rfl rfl ti22 rfl) rfl fun a hA => ?_
 refine sq hA (q_loadB hH 3 rfl (List.mem_singleton.2 rfl) Tryd.underlying22 rfl rfl rfl) rfl fun a hA => ?_
 refine sl hA (lo_call fn56 rfl (refwtext_any _ _ (hH.rd htv) (by first | omega | (simp; done) | (simp; omega)))) rfl ?_
 rintro _ w ⟨v_t23, N_t23, rfl, hO_t23, hC⟩ a hA
 replace hH := HS.call0 hH hC
 clear hC
 replace hH := hH.pick [1, 0, 2, 3, 4] (Hs' := [_, _, _, _, _]) rfl
 refine sl hA (lo_appm hH Tryd.underlying22 Tryd.underlying22 (.inl rfl) ti5 rfl rfl rfl hO_t19 (Rd.src (Own.rd0 hO_t23 hH 1 rfl)) (one_B8 _) (by first | omega | (simp only [List.length_append, List.length_nil, hnn, macV_length]; omega)) (by first | omega | (simp only [List.length_append, List.length_nil, hnn, macV_length]; omega))) rfl ?_
 clear hH; rintro v_t24 w ⟨N_t24, hO_t24, hH⟩ a hA
 refine asg hA fun a hA => ?_
 refine wpList_nil ?_
 refine hK5 _ _ ?_
 clear hK5
 replace hA := hA.s3 3 2 1
 refine wp_seq_k fun K6 hK6 => ?_
 refine wp_region_lit ?_
 refine mv hA fun a hA => ?_
 refine sq hA (q_fld 4 Tryd.underlying64 rfl rfl ti22 rfl) rfl fun a hA => ?_
 refine sq hA (q_loadB hH 4 rfl (List.mem_singleton.2 rfl) Tryd.underlying22 rfl rfl rfl) rfl fun a hA => ?_
 refine sl hA (lo_call fn56 rfl (refwtext_any _ _ (hH.rd hpv) (by first | omega | (simp; done) | (simp; omega)))) rfl ?_
 rintro _ w ⟨v_t28, N_t28, rfl, hO_t28, hC⟩ a hA
 replace hH := HS.call0 hH hC
 clear hC
 replace hH := hH.pick [1, 0, 2, 3, 4, 5] (Hs' := [_, _, _, _, _, _]) rfl
 refine sl hA (lo_appm hH Tryd.underlying22 Tryd.underlying22 (.inl rfl) ti5 rfl rfl rfl hO_t24 (Rd.src (Own.rd0 hO_t28 hH 1 rfl)) (one_B8 _) (by first | omega | (simp only [List.length_append, List.length_nil, hnn, macV_length]; omega)) (by first | omega | (simp only [List.length_append, List.length_nil, hnn, macV_length]; omega))) rfl ?_
 clear hH; rintro v_t29 w ⟨N_t29, hO_t29, hH⟩ a hA
 refine asg hA fun a hA => ?_
 refine wpList_nil ?_
 refine hK6 _ _ ?_
 clear hK6
 replace hA := hA.s3 3 2 1
 refine wp_seq_k fun K7 hK7 => ?_
 refine wp_region_lit ?_
 refine mv hA fun a hA => ?_
 refine sq hA (q_fld 5 Tryd.underlying64 rfl rfl ti24 rfl) rfl fun a hA => ?_
 refine sq hA (q_loadBA hH 5 rfl (List.mem_singleton.2 rfl) Tryd.underlying24 rfl ti24 rfl _ (ordC_n hnn) (by simp [hnn])) rfl fun a hA => ?_
 refine sl hA (lo_call fn57 rfl (refdigest_any _ (by first | assumption | (rw [List.length_map]; assumption) | rfl | exact sha_length _ | (simp; done) | (simp [*]; done) | omega))) rfl ?_
 rintro _ w ⟨v_t33, N_t33, rfl, hO_t33, hC⟩ a hA
 replace hH := HS.call0 hH hC
 clear hC
 replace hH := hH.pick [1, 0, 2, 3, 4, 5, 6] (Hs' := [_, _, _, _, _, _, _]) rfl
 refine sl hA (lo_appm hH Tryd.underlying22 Tryd.underlying22 (.inl rfl) ti5 rfl rfl rfl hO_t29 (Rd.src (Own.rd0 hO_t33 hH 1 rfl)) (one_B8 _) (by first | omega | (simp only [List.length_append, List.length_nil, hnn, macV_length]; omega)) (by first | omega | (simp only [List.length_append, List.length_nil, hnn, macV_length]; omega))) rfl ?_
 clear hH; rintro v_t34 w ⟨N_t34, hO_t34, hH⟩ a hA
 refine asg hA fun a hA => ?_
 refine wpList_nil ?_
 refine hK7 _ _ ?_
 clear hK7
 replace hA := hA.s1 2
 refine wp_ret ?_
 refine post_ret hA (res_1 rfl hA rfl) ?_
 replace hH := hH.pick [0] (Hs' := [_]) rfl
 exact ⟨_, rfl, v_t34, N_t34, rfl, hO_t34, hH⟩

theorem refencw_any {w0 : World} {lv : Nat} (hg : Gl (lv + 2) w0) (key : Bs) (hkey : key.length = 32) (jj aa ii : Int) (tv pv : Value) (T Pl : Bs) (htv : By [] w0 tv T) (hpv : By [] w0 pv Pl) (hlT : T.length ≤ 1048576) (hlP : Pl.length ≤ 1048576) (nn : Bs) (hnn : nn.length = 32) :
    Calls Tryd.prog 38 #[(.agg ((key).map B8).toArray), (.agg (ordC jj aa ii tv pv nn).toArray)] w0 (Ret fun r w' => ∃ v' N, r = .tuple #[v', I (encO key jj aa ii T Pl nn).2] ∧ Ow B8 5 v' (encO key jj aa ii T Pl nn).1 N ∧ HS [] w0 w' [N]) := by
 have hH := HS.start w0
 refine start (n := 21) (E := [(0, _), (1, _)]) Tryd.func38 rfl rfl rfl (args_look rfl) ?_
 intro a hA
 refine wp_seq_k fun K1 hK1 => ?_
 refine wp_region_lit ?_
 refine sl hA (lo_boxA hH rfl) rfl ?_
 clear hH; rintro _ w ⟨b_t2, rfl, hH⟩ a hA
 refine sl hA (lo_boxA hH rfl) rfl ?_
 clear hH; rintro _ w ⟨b_t3, rfl, hH⟩ a hA
 refine asg hA fun a hA => ?_
 refine asg hA fun a hA => ?_
 refine wpList_nil ?_
 refine hK1 _ _ ?_
 clear hK1
 replace hA := hA.s4 5 4 3 2
 refine wp_seq_k fun K2 hK2 => ?_
 refine wp_seq_k fun K3 hK3 => ?_
 refine wp_region_lit ?_
 refine sq hA (q_loadW hH 0 rfl Tryd.underlying64 rfl ti64 rfl (by first | rfl | exact ordC_length hnn | (rw [ordC_length hnn]; decide))) rfl fun a hA => ?_
 refine sl hA (lo_call fn52 rfl (refmay22_any _ _ _ _ _ _ _ (hH.rd htv) (hH.rd hpv) (by first | omega | (simp; done) | (simp; omega)) (by first | omega | (simp; done) | (simp; omega)) _ (by first | assumption | (rw [List.length_map]; assumption) | rfl | exact sha_length _ | (simp; done) | (simp [*]; done) | omega))) rfl ?_
 rintro _ w ⟨rfl, hC⟩ a hA
 replace hH := HS.call0 hH hC
 clear hC
 refine hA.spl (fun hs9 hA => ?_) (fun hs9 hA => ?_)
 ·skip
  have hM : MayO jj aa ii T Pl := by assumption
  have hbl := bodyO_len (j := jj.toNat) (a := aa.toNat) (i := ii.toNat) (T := T) (P := Pl) (n := nn) (by have := hM.1; omega) (by have := hM.2.1; omega) (by have := hM.2.2.1; omega) hlT hlP hnn
  obtain ⟨⟨y1, y2⟩, ⟨y3, y4⟩, ⟨y5, y6⟩, y7, y8⟩ := id hM
  refine sq hA (q_not rfl) rfl fun a hA => ?_
  refine wpList_nil ?_
  refine hK3 _ _ ?_
  clear hK3
  replace hA := hA.s5 10 5 4 3 2
  refine cond_f hA rfl ?_
  refine wp_skip ?_
  refine hK2 _ _ ?_
  clear hK2
  replace hA := hA.s4 5 4 3 2
  refine wp_seq_k fun K4 hK4 => ?_
  refine wp_region_lit ?_
  refine sq hA (q_loadW hH 0 rfl Tryd.underlying64 rfl ti64 rfl (by first | rfl | exact ordC_length hnn | (rw [ordC_length hnn]; decide))) rfl fun a hA => ?_
  refine sl hA (lo_call fn83 rfl (refbody22_any _ _ _ _ _ _ _ (hH.rd htv) (hH.rd hpv) (by first | omega | (simp; done) | (simp; omega)) (by first | omega | (simp; done) | (simp; omega)) _ (by first | assumption | (rw [List.length_map]; assumption) | rfl | exact sha_length _ | (simp; done) | (simp [*]; done) | omega) (by assumption))) rfl ?_
  rintro _ w ⟨v_t12, N_t12, rfl, hO_t12, hC⟩ a hA
  replace hH := HS.call0 hH hC
  clear hC
  refine asg hA fun a hA => ?_
  refine wpList_nil ?_
  refine hK4 _ _ ?_
  clear hK4
  replace hA := hA.s4 6 5 4 2
  refine wp_seq_k fun K5 hK5 => ?_
  refine wp_region_lit ?_
  refine sq hA (q_loadW hH 2 rfl Tryd.underlying24 rfl ti24 rfl (by first | omega | (simp; done) | (simp; omega) | (rw [List.length_map]; assumption) | assumption | rfl | (simp [*]; done) | (simp [*]; omega))) rfl fun a hA => ?_
  refine sl hA (lo_call fn57 rfl (refdigest_any _ (by first | assumption | (rw [List.length_map]; assumption) | rfl | exact sha_length _ | (simp; done) | (simp [*]; done) | omega))) rfl ?_
  rintro _ w ⟨v_t14, N_t14, rfl, hO_t14, hC⟩ a hA
  replace hH := HS.call0 hH hC
  clear hC
  refine mv hA fun a hA => ?_
  refine sl hA (lo_call fn84 rfl (refmac_any (hg.mono0 hH) _ _ _ _ (Own.rd0 hO_t14 hH 0 rfl) (Own.rd0 hO_t12 hH 1 rfl) (by first | omega | (simp; done) | (simp; omega)) (by first | omega | (simp; done) | (simp; omega)))) rfl ?_
  rintro _ w ⟨rfl, hC⟩ a hA
  replace hH := HS.call0 hH hC
  clear hC
  refine sl hA (lo_call fn57 rfl (refdigest_any _ (by first | assumption | (rw [List.length_map]; assumption) | rfl | exact sha_length _ | (simp; done) | (simp [*]; done) | omega))) rfl ?_
  rintro _ w ⟨v_t17, N_t17, rfl, hO_t17, hC⟩ a hA
  replace hH := HS.call0 hH hC
  clear hC
  refine asg hA fun a hA => ?_
  refine wpList_nil ?_
  refine hK5 _ _ ?_
  clear hK5
  replace hA := hA.s4 7 6 5 4
  refine wp_seq_k fun K6 hK6 => ?_
  refine wp_region_lit ?_
  refine mv hA fun a hA => ?_
  refine mv hA fun a hA => ?_
  replace hH := hH.pick [2, 0, 1, 3, 4] (Hs' := [_, _, _, _, _]) rfl
  refine sl hA (lo_appm hH Tryd.underlying22 Tryd.underlying22 (.inl rfl) ti5 rfl rfl rfl hO_t12 (Rd.src (Own.rd0 hO_t17 hH 1 rfl)) (one_B8 _) (by first | omega | (simp only [List.length_append, List.length_nil, hnn, macV_length]; omega)) (by first | omega | (simp only [List.length_append, List.length_nil, hnn, macV_length]; omega))) rfl ?_
  clear hH; rintro v_t20 w ⟨N_t20, hO_t20, hH⟩ a hA
  refine asg hA fun a hA => ?_
  refine asg hA fun a hA => ?_
  refine wpList_nil ?_
  refine hK6 _ _ ?_
  clear hK6
  replace hA := hA.s2 5 4
  refine wp_ret ?_
  refine post_ret hA (res_2 rfl hA rfl rfl) ?_
  replace hH := hH.pick [0] (Hs' := [_]) rfl
  exact ⟨_, rfl, v_t20, N_t20, by rw [encO_ok hM]; rfl, by rw [encO_ok hM]; exact hO_t20, hH⟩
 ·skip
  have hM : ¬ MayO jj aa ii T Pl := by assumption
  refine sq hA (q_not rfl) rfl fun a hA => ?_
  refine wpList_nil ?_
  refine hK3 _ _ ?_
  clear hK3
  replace hA := hA.s5 10 5 4 3 2
  refine cond_t hA rfl ?_
  refine wp_seq_k fun K7 hK7 => ?_
  refine wp_region_lit ?_
  refine asg hA fun a hA => ?_
  refine asg hA fun a hA => ?_
  refine wpList_nil ?_
  refine hK7 _ _ ?_
  clear hK7
  replace hA := hA.s4 5 4 3 2
  refine wp_ret ?_
  refine then_ret ?_
  refine post_ret hA (res_2 rfl hA rfl rfl) ?_
  replace hH := hH.pick [] (Hs' := []) rfl
  exact ⟨_, rfl, nilV, [], by rw [encO_bad hM]; rfl, by rw [encO_bad hM]; exact Ow.nil B8 _, hH.nilFront⟩

theorem same22_any {w0 : World} (jj aa ii : Int) (tv pv : Value) (T Pl : Bs) (htv : By [] w0 tv T) (hpv : By [] w0 pv Pl) (hlT : T.length ≤ 1048576) (hlP : Pl.length ≤ 1048576) (nn : Bs) (hnn : nn.length = 32) (j2 a2 i2 : Int) (tv2 pv2 : Value) (T2 P2 : Bs) (htv2 : By [] w0 tv2 T2) (hpv2 : By [] w0 pv2 P2) (hlT2 : T2.length ≤ 1048576) (hlP2 : P2.length ≤ 1048576) (n2 : Bs) (hn2 : n2.length = 32) :
    Calls Tryd.prog 41 #[(.agg (ordC jj aa ii tv pv nn).toArray), (.agg (ordC j2 a2 i2 tv2 pv2 n2).toArray)] w0 (Ret fun r w' => r = .bool (decide (jj = j2 ∧ aa = a2 ∧ ii = i2 ∧ nn = n2 ∧ T = T2 ∧ Pl = P2)) ∧ HS [] w0 w' []) := by
 have hH := HS.start w0
 refine start (n := 45) (E := [(0, _), (1, _)]) Tryd.func41 rfl rfl rfl (args_look rfl) ?_
 intro a hA
 refine wp_seq_k fun K1 hK1 => ?_
 refine wp_region_lit ?_
 refine sl hA (lo_boxA hH rfl) rfl ?_
 clear hH; rintro _ w ⟨b_t2, rfl, hH⟩ a hA
 refine sl hA (lo_boxA hH rfl) rfl ?_
 clear hH; rintro _ w ⟨b_t3, rfl, hH⟩ a hA
 refine asg hA fun a hA => ?_
 refine wpList_nil ?_
 refine hK1 _ _ ?_
 clear hK1
 replace hA := hA.s3 4 3 2
 refine wp_seq_k fun K2 hK2 => ?_
 refine wp_region_lit ?_
 refine sq hA (q_fld 0 Tryd.underlying64 rfl rfl ti3 rfl) rfl fun a hA => ?_
 refine sq hA (q_loadB hH 1 rfl (List.mem_singleton.2 rfl) Tryd.underlying3 rfl rfl rfl) rfl fun a hA => ?_
 refine sq hA (q_fld 0 Tryd.underlying64 rfl rfl ti3 rfl) rfl fun a hA => ?_
 refine sq hA (q_loadB hH 0 rfl (List.mem_singleton.2 rfl) Tryd.underlying3 rfl rfl rfl) rfl fun a hA => ?_
 refine sq hA (q_eqlI rfl rfl) rfl fun a hA => ?_
 refine hA.spl (fun hs9 hA => ?_) (fun hs9 hA => ?_)
 ·skip
  refine mv hA fun a hA => ?_
  refine gq hA rfl rfl (q_fld 1 Tryd.underlying64 rfl rfl ti3 rfl) rfl fun a hA => ?_
  refine gq hA rfl rfl (q_loadB hH 1 rfl (List.mem_singleton.2 rfl) Tryd.underlying3 rfl rfl rfl) rfl fun a hA => ?_
  refine gq hA rfl rfl (q_fld 1 Tryd.underlying64 rfl rfl ti3 rfl) rfl fun a hA => ?_
  refine gq hA rfl rfl (q_loadB hH 0 rfl (List.mem_singleton.2 rfl) Tryd.underlying3 rfl rfl rfl) rfl fun a hA => ?_
  refine gq hA rfl rfl (q_eqlI rfl rfl) rfl fun a hA => ?_
  refine sq hA (q_pick_t rfl rfl) rfl fun a hA => ?_
  refine hA.spl (fun hs16 hA => ?_) (fun hs16 hA => ?_)
  ·skip
   refine mv hA fun a hA => ?_
   refine gq hA rfl rfl (q_fld 2 Tryd.underlying64 rfl rfl ti3 rfl) rfl fun a hA => ?_
   refine gq hA rfl rfl (q_loadB hH 1 rfl (List.mem_singleton.2 rfl) Tryd.underlying3 rfl rfl rfl) rfl fun a hA => ?_
   refine gq hA rfl rfl (q_fld 2 Tryd.underlying64 rfl rfl ti3 rfl) rfl fun a hA => ?_
   refine gq hA rfl rfl (q_loadB hH 0 rfl (List.mem_singleton.2 rfl) Tryd.underlying3 rfl rfl rfl) rfl fun a hA => ?_
   refine gq hA rfl rfl (q_eqlI rfl rfl) rfl fun a hA => ?_
   refine sq hA (q_pick_t rfl rfl) rfl fun a hA => ?_
   refine hA.spl (fun hs23 hA => ?_) (fun hs23 hA => ?_)
   ·skip
    refine mv hA fun a hA => ?_
    refine gq hA rfl rfl (q_fld 5 Tryd.underlying64 rfl rfl ti24 rfl) rfl fun a hA => ?_
    refine gq hA rfl rfl (q_loadBA hH 1 rfl (List.mem_singleton.2 rfl) Tryd.underlying24 rfl ti24 rfl _ (ordC_n hnn) (by simp [hnn])) rfl fun a hA => ?_
    refine gq hA rfl rfl (q_fld 5 Tryd.underlying64 rfl rfl ti24 rfl) rfl fun a hA => ?_
    refine gq hA rfl rfl (q_loadBA hH 0 rfl (List.mem_singleton.2 rfl) Tryd.underlying24 rfl ti24 rfl _ (ordC_n hn2) (by simp [hn2])) rfl fun a hA => ?_
    refine gq hA rfl rfl (q_eqlA8 eqa24 rfl rfl rfl rfl (by first | assumption | (rw [List.length_map]; assumption) | rfl | exact sha_length _ | (simp; done) | (simp [*]; done) | omega) (by first | assumption | (rw [List.length_map]; assumption) | rfl | exact sha_length _ | (simp; done) | (simp [*]; done) | omega)) rfl fun a hA => ?_
    refine sq hA (q_pick_t rfl rfl) rfl fun a hA => ?_
    refine hA.spl (fun hs30 hA => ?_) (fun hs30 hA => ?_)
    ·skip
     refine mv hA fun a hA => ?_
     refine gq hA rfl rfl (q_fld 3 Tryd.underlying64 rfl rfl ti22 rfl) rfl fun a hA => ?_
     refine gq hA rfl rfl (q_loadB hH 1 rfl (List.mem_singleton.2 rfl) Tryd.underlying22 rfl rfl rfl) rfl fun a hA => ?_
     refine gq hA rfl rfl (q_fld 3 Tryd.underlying64 rfl rfl ti22 rfl) rfl fun a hA => ?_
     refine gq hA rfl rfl (q_loadB hH 0 rfl (List.mem_singleton.2 rfl) Tryd.underlying22 rfl rfl rfl) rfl fun a hA => ?_
     refine gl hA rfl rfl (lo_call fn16 rfl (same_any _ _ _ _ (hH.rd htv) (hH.rd htv2) (by first | omega | (simp; done) | (simp; omega)) (by first | omega | (simp; done) | (simp; omega)))) rfl ?_
     rintro _ w ⟨rfl, hC⟩ a hA
     replace hH := HS.call0 hH hC
     clear hC
     refine sq hA (q_pick_t rfl rfl) rfl fun a hA => ?_
     refine hA.spl (fun hs37 hA => ?_) (fun hs37 hA => ?_)
     ·skip
      refine mv hA fun a hA => ?_
      refine gq hA rfl rfl (q_fld 4 Tryd.underlying64 rfl rfl ti22 rfl) rfl fun a hA => ?_
      refine gq hA rfl rfl (q_loadB hH 1 rfl (List.mem_singleton.2 rfl) Tryd.underlying22 rfl rfl rfl) rfl fun a hA => ?_
      refine gq hA rfl rfl (q_fld 4 Tryd.underlying64 rfl rfl ti22 rfl) rfl fun a hA => ?_
      refine gq hA rfl rfl (q_loadB hH 0 rfl (List.mem_singleton.2 rfl) Tryd.underlying22 rfl rfl rfl) rfl fun a hA => ?_
      refine gl hA rfl rfl (lo_call fn16 rfl (same_any _ _ _ _ (hH.rd hpv) (hH.rd hpv2) (by first | omega | (simp; done) | (simp; omega)) (by first | omega | (simp; done) | (simp; omega)))) rfl ?_
      rintro _ w ⟨rfl, hC⟩ a hA
      replace hH := HS.call0 hH hC
      clear hC
      refine sq hA (q_pick_t rfl rfl) rfl fun a hA => ?_
      refine asg hA fun a hA => ?_
      refine wpList_nil ?_
      refine hK2 _ _ ?_
      clear hK2
      replace hA := hA.s1 4
      refine wp_ret ?_
      refine post_ret hA (res_1 rfl hA rfl) ?_
      replace hH := hH.pick [] (Hs' := []) rfl
      exact ⟨_, rfl, by congr 1; symm; first | exact decide_eq_false (fun hV => by obtain ⟨h1, h2, h3, h4, h5, h6⟩ := hV; contradiction) | exact decide_eq_decide.2 ⟨fun hV => hV.2.2.2.2.2, fun hV => ⟨by assumption, by assumption, by assumption, by assumption, by assumption, hV⟩⟩, hH⟩
     ·skip
      refine mv hA fun a hA => ?_
      refine gs hA rfl rfl rfl rfl fun a hA => ?_
      refine gs hA rfl rfl rfl rfl fun a hA => ?_
      refine gs hA rfl rfl rfl rfl fun a hA => ?_
      refine gs hA rfl rfl rfl rfl fun a hA => ?_
      refine gs hA rfl rfl rfl rfl fun a hA => ?_
      refine sq hA (q_pick_f rfl rfl) rfl fun a hA => ?_
      refine asg hA fun a hA => ?_
      refine wpList_nil ?_
      refine hK2 _ _ ?_
      clear hK2
      replace hA := hA.s1 4
      refine wp_ret ?_
      refine post_ret hA (res_1 rfl hA rfl) ?_
      replace hH := hH.pick [] (Hs' := []) rfl
      exact ⟨_, rfl, by congr 1; symm; first | exact decide_eq_false (fun hV => by obtain ⟨h1, h2, h3, h4, h5, h6⟩ := hV; contradiction) | exact decide_eq_decide.2 ⟨fun hV => hV.2.2.2.2.2, fun hV => ⟨by assumption, by assumption, by assumption, by assumption, by assumption, hV⟩⟩, hH⟩
    ·skip
     refine mv hA fun a hA => ?_
     refine gs hA rfl rfl rfl rfl fun a hA => ?_
     refine gs hA rfl rfl rfl rfl fun a hA => ?_
     refine gs hA rfl rfl rfl rfl fun a hA => ?_
     refine gs hA rfl rfl rfl rfl fun a hA => ?_
     refine gs hA rfl rfl rfl rfl fun a hA => ?_
     refine sq hA (q_pick_f rfl rfl) rfl fun a hA => ?_
     refine mv hA fun a hA => ?_
     refine gs hA rfl rfl rfl rfl fun a hA => ?_
     refine gs hA rfl rfl rfl rfl fun a hA => ?_
     refine gs hA rfl rfl rfl rfl fun a hA => ?_
     refine gs hA rfl rfl rfl rfl fun a hA => ?_
     refine gs hA rfl rfl rfl rfl fun a hA => ?_
     refine sq hA (q_pick_f rfl rfl) rfl fun a hA => ?_
     refine asg hA fun a hA => ?_
     refine wpList_nil ?_
     refine hK2 _ _ ?_
     clear hK2
     replace hA := hA.s1 4
     refine wp_ret ?_
     refine post_ret hA (res_1 rfl hA rfl) ?_
     replace hH := hH.pick [] (Hs' := []) rfl
     exact ⟨_, rfl, by congr 1; symm; first | exact decide_eq_false (fun hV => by obtain ⟨h1, h2, h3, h4, h5, h6⟩ := hV; contradiction) | exact decide_eq_decide.2 ⟨fun hV => hV.2.2.2.2.2, fun hV => ⟨by assumption, by assumption, by assumption, by assumption, by assumption, hV⟩⟩, hH⟩
   ·skip
    refine mv hA fun a hA => ?_
    refine gs hA rfl rfl rfl rfl fun a hA => ?_
    refine gs hA rfl rfl rfl rfl fun a hA => ?_
    refine gs hA rfl rfl rfl rfl fun a hA => ?_
    refine gs hA rfl rfl rfl rfl fun a hA => ?_
    refine gs hA rfl rfl rfl rfl fun a hA => ?_
    refine sq hA (q_pick_f rfl rfl) rfl fun a hA => ?_
    refine mv hA fun a hA => ?_
    refine gs hA rfl rfl rfl rfl fun a hA => ?_
    refine gs hA rfl rfl rfl rfl fun a hA => ?_
    refine gs hA rfl rfl rfl rfl fun a hA => ?_
    refine gs hA rfl rfl rfl rfl fun a hA => ?_
    refine gs hA rfl rfl rfl rfl fun a hA => ?_
    refine sq hA (q_pick_f rfl rfl) rfl fun a hA => ?_
    refine mv hA fun a hA => ?_
    refine gs hA rfl rfl rfl rfl fun a hA => ?_
    refine gs hA rfl rfl rfl rfl fun a hA => ?_
    refine gs hA rfl rfl rfl rfl fun a hA => ?_
    refine gs hA rfl rfl rfl rfl fun a hA => ?_
    refine gs hA rfl rfl rfl rfl fun a hA => ?_
    refine sq hA (q_pick_f rfl rfl) rfl fun a hA => ?_
    refine asg hA fun a hA => ?_
    refine wpList_nil ?_
    refine hK2 _ _ ?_
    clear hK2
    replace hA := hA.s1 4
    refine wp_ret ?_
    refine post_ret hA (res_1 rfl hA rfl) ?_
    replace hH := hH.pick [] (Hs' := []) rfl
    exact ⟨_, rfl, by congr 1; symm; first | exact decide_eq_false (fun hV => by obtain ⟨h1, h2, h3, h4, h5, h6⟩ := hV; contradiction) | exact decide_eq_decide.2 ⟨fun hV => hV.2.2.2.2.2, fun hV => ⟨by assumption, by assumption, by assumption, by assumption, by assumption, hV⟩⟩, hH⟩
  ·skip
   refine mv hA fun a hA => ?_
   refine gs hA rfl rfl rfl rfl fun a hA => ?_
   refine gs hA rfl rfl rfl rfl fun a hA => ?_
   refine gs hA rfl rfl rfl rfl fun a hA => ?_
   refine gs hA rfl rfl rfl rfl fun a hA => ?_
   refine gs hA rfl rfl rfl rfl fun a hA => ?_
   refine sq hA (q_pick_f rfl rfl) rfl fun a hA => ?_
   refine mv hA fun a hA => ?_
   refine gs hA rfl rfl rfl rfl fun a hA => ?_
   refine gs hA rfl rfl rfl rfl fun a hA => ?_
   refine gs hA rfl rfl rfl rfl fun a hA => ?_
   refine gs hA rfl rfl rfl rfl fun a hA => ?_
   refine gs hA rfl rfl rfl rfl fun a hA => ?_
   refine sq hA (q_pick_f rfl rfl) rfl fun a hA => ?_
   refine mv hA fun a hA => ?_
   refine gs hA rfl rfl rfl rfl fun a hA => ?_
   refine gs hA rfl rfl rfl rfl fun a hA => ?_
   refine gs hA rfl rfl rfl rfl fun a hA => ?_
   refine gs hA rfl rfl rfl rfl fun a hA => ?_
   refine gs hA rfl rfl rfl rfl fun a hA => ?_
   refine sq hA (q_pick_f rfl rfl) rfl fun a hA => ?_
   refine mv hA fun a hA => ?_
   refine gs hA rfl rfl rfl rfl fun a hA => ?_
   refine gs hA rfl rfl rfl rfl fun a hA => ?_
   refine gs hA rfl rfl rfl rfl fun a hA => ?_
   refine gs hA rfl rfl rfl rfl fun a hA => ?_
   refine gs hA rfl rfl rfl rfl fun a hA => ?_
   refine sq hA (q_pick_f rfl rfl) rfl fun a hA => ?_
   refine asg hA fun a hA => ?_
   refine wpList_nil ?_
   refine hK2 _ _ ?_
   clear hK2
   replace hA := hA.s1 4
   refine wp_ret ?_
   refine post_ret hA (res_1 rfl hA rfl) ?_
   replace hH := hH.pick [] (Hs' := []) rfl
   exact ⟨_, rfl, by congr 1; symm; first | exact decide_eq_false (fun hV => by obtain ⟨h1, h2, h3, h4, h5, h6⟩ := hV; contradiction) | exact decide_eq_decide.2 ⟨fun hV => hV.2.2.2.2.2, fun hV => ⟨by assumption, by assumption, by assumption, by assumption, by assumption, hV⟩⟩, hH⟩
 ·skip
  refine mv hA fun a hA => ?_
  refine gs hA rfl rfl rfl rfl fun a hA => ?_
  refine gs hA rfl rfl rfl rfl fun a hA => ?_
  refine gs hA rfl rfl rfl rfl fun a hA => ?_
  refine gs hA rfl rfl rfl rfl fun a hA => ?_
  refine gs hA rfl rfl rfl rfl fun a hA => ?_
  refine sq hA (q_pick_f rfl rfl) rfl fun a hA => ?_
  refine mv hA fun a hA => ?_
  refine gs hA rfl rfl rfl rfl fun a hA => ?_
  refine gs hA rfl rfl rfl rfl fun a hA => ?_
  refine gs hA rfl rfl rfl rfl fun a hA => ?_
  refine gs hA rfl rfl rfl rfl fun a hA => ?_
  refine gs hA rfl rfl rfl rfl fun a hA => ?_
  refine sq hA (q_pick_f rfl rfl) rfl fun a hA => ?_
  refine mv hA fun a hA => ?_
  refine gs hA rfl rfl rfl rfl fun a hA => ?_
  refine gs hA rfl rfl rfl rfl fun a hA => ?_
  refine gs hA rfl rfl rfl rfl fun a hA => ?_
  refine gs hA rfl rfl rfl rfl fun a hA => ?_
  refine gs hA rfl rfl rfl rfl fun a hA => ?_
  refine sq hA (q_pick_f rfl rfl) rfl fun a hA => ?_
  refine mv hA fun a hA => ?_
  refine gs hA rfl rfl rfl rfl fun a hA => ?_
  refine gs hA rfl rfl rfl rfl fun a hA => ?_
  refine gs hA rfl rfl rfl rfl fun a hA => ?_
  refine gs hA rfl rfl rfl rfl fun a hA => ?_
  refine gs hA rfl rfl rfl rfl fun a hA => ?_
  refine sq hA (q_pick_f rfl rfl) rfl fun a hA => ?_
  refine mv hA fun a hA => ?_
  refine gs hA rfl rfl rfl rfl fun a hA => ?_
  refine gs hA rfl rfl rfl rfl fun a hA => ?_
  refine gs hA rfl rfl rfl rfl fun a hA => ?_
  refine gs hA rfl rfl rfl rfl fun a hA => ?_
  refine gs hA rfl rfl rfl rfl fun a hA => ?_
  refine sq hA (q_pick_f rfl rfl) rfl fun a hA => ?_
  refine asg hA fun a hA => ?_
  refine wpList_nil ?_
  refine hK2 _ _ ?_
  clear hK2
  replace hA := hA.s1 4
  refine wp_ret ?_
  refine post_ret hA (res_1 rfl hA rfl) ?_
  replace hH := hH.pick [] (Hs' := []) rfl
  exact ⟨_, rfl, by congr 1; symm; first | exact decide_eq_false (fun hV => by obtain ⟨h1, h2, h3, h4, h5, h6⟩ := hV; contradiction) | exact decide_eq_decide.2 ⟨fun hV => hV.2.2.2.2.2, fun hV => ⟨by assumption, by assumption, by assumption, by assumption, by assumption, hV⟩⟩, hH⟩

theorem refright22_any {w0 : World} {lv : Nat} (hg : Gl (lv + 2) w0) (v : Value) (l : Bs) (hr : By [] w0 v l) (hl : l.length ≤ 1048000) :
    Calls Tryd.prog 43 #[v] w0 (Ret fun r w' => ∃ v' N, v' = r ∧ Ow B8 5 v' (rightV l) N ∧ HS [] w0 w' [N]) := by
 have hH := HS.start w0
 refine start (n := 12) (E := [(0, _)]) Tryd.func43 rfl rfl rfl (args_look rfl) ?_
 intro a hA
 refine wp_seq_k fun K1 hK1 => ?_
 refine wp_region_lit ?_
 refine asg hA fun a hA => ?_
 refine wpList_nil ?_
 refine hK1 _ _ ?_
 clear hK1
 refine wp_seq_k fun K2 hK2 => ?_
 refine wp_region_lit ?_
 refine sl hA (lo_bsR (e := 5) ([119#8, 111#8, 114#8, 107#8]) hH rfl rfl (fun w => by kernel_rfl)) rfl ?_
 clear hH; rintro _ w ⟨b_t4, rfl, hH⟩ a hA
 refine sl hA (lo_cvBytes hH Tryd.underlying22 Tryd.underlying5 rfl rfl) rfl ?_
 clear hH; rintro v_t5 w ⟨N_t5, hO_t5, hH⟩ a hA
 refine mv hA fun a hA => ?_
 refine sl hA (lo_call fn94 rfl (join_any _ _ _ _ (Own.rd0 hO_t5 hH 0 rfl) (hH.rd hr) (by first | omega | (simp; done) | (simp; omega)))) rfl ?_
 rintro _ w ⟨v_t7, N_t7, rfl, hO_t7, hC⟩ a hA
 replace hH := HS.call0 hH hC
 clear hC
 refine sl hA (lo_call fn93 rfl (refsum_any (hg.mono0 hH) _ _ (Own.rd0 hO_t7 hH 0 rfl) (by first | omega | (simp; done) | (simp; omega)))) rfl ?_
 rintro _ w ⟨rfl, hC⟩ a hA
 replace hH := HS.call0 hH hC
 clear hC
 refine sl hA (lo_call fn57 rfl (refdigest_any _ (by first | assumption | (rw [List.length_map]; assumption) | rfl | exact sha_length _ | (simp; done) | (simp [*]; done) | omega))) rfl ?_
 rintro _ w ⟨v_t9, N_t9, rfl, hO_t9, hC⟩ a hA
 replace hH := HS.call0 hH hC
 clear hC
 refine asg hA fun a hA => ?_
 refine wpList_nil ?_
 refine hK2 _ _ ?_
 clear hK2
 replace hA := hA.s2 3 2
 refine wp_seq_k fun K3 hK3 => ?_
 refine wp_region_lit ?_
 refine mv hA fun a hA => ?_
 obtain ⟨v_t11, hv_t11, hO_t11⟩ := Ow.cut hO_t9 (0) (8) (by first | omega | (simp [sha_length]; done)) (by first | omega | (simp [sha_length]; done))
 refine sq hA (q_slice Tryd.underlying22 ti5 rfl (0) (8) hv_t11 (Own.shp hO_t9) rfl rfl (rfl) (rfl) (by first | omega | (simp [sha_length]; done)) (by first | omega | (simp [sha_length]; done))) rfl fun a hA => ?_
 refine asg hA fun a hA => ?_
 refine wpList_nil ?_
 refine hK3 _ _ ?_
 clear hK3
 replace hA := hA.s1 2
 refine wp_ret ?_
 refine post_ret hA (res_1 rfl hA rfl) ?_
 replace hH := hH.pick [0] (Hs' := [_]) rfl
 exact ⟨_, rfl, v_t11, N_t9, rfl, by simpa [rightV] using hO_t11, hH⟩

end Go.Proofs.YtnnkgdijaekcfaaDoor
