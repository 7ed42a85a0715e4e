/- Layer 22 (worker): the document's answer. -/
import Derived.Test.YtnnkgdijaekcfaaDoorKd
import Derived.Test.YtnnkgdijaekcfaaDoorMzc
namespace Go.Proofs.YtnnkgdijaekcfaaDoor
open Go
set_option linter.unusedVariables false
set_option linter.unusedSimpArgs false
set_option maxRecDepth 100000

theorem pubw_any {w0 : World} {lv : Nat} (hg : Gl lv w0) (key : Bs) (hkey : key.length = 32) (s : Bs) (hsd : s.length = 32) (n h : Nat) (hn : R7 n h) (v_l : Value) (b_w b_k b_s b_m : Nat) (hgM : NG lv [b_w, b_k, b_m]) (hSd : RdD [b_w, b_k, b_m] w0 (.slice (some ⟨b_s, 0, none⟩) 1 1) [s]) (hLv : RdD [b_w, b_k, b_m] w0 v_l (leavesK s n (2 ^ h))) (x : Nat) (hx : x ≤ 2 ^ h) (m : List (Int × Value)) (hH : HS [b_w, b_k, b_m] w0 w0 [[(b_w, Obj.cells (wkC b_k key b_m).toArray 147 (0, 0))], [(b_k, Obj.cells (keyC (.func (.func 65) #[] #[.pointer (some ⟨b_s, 0, none⟩)]) v_l (pubK s n h) n x).toArray 109 (0, 0))], [(b_m, mapO m)]]) :
    Calls Tryd.prog 50 #[(.pointer (some ⟨b_w, 0, none⟩))] w0 (Ret fun r w' => r = .agg ((pubK s n h).map B8).toArray ∧ HS [b_w, b_k, b_m] w0 w' [[(b_w, Obj.cells (wkC b_k key b_m).toArray 147 (0, 0))], [(b_k, Obj.cells (keyC (.func (.func 65) #[] #[.pointer (some ⟨b_s, 0, none⟩)]) v_l (pubK s n h) n x).toArray 109 (0, 0))], [(b_m, mapO m)]]) := by
 refine start (n := 11) (E := [(0, _)]) Tryd.func50 rfl rfl rfl (args_look rfl) ?_
 intro a hA
 have hn5 := hn.1
 have hn1 := hn.1.1
 have hn2 := hn.1.2
 have hh6 : h ≤ 6 := by have := hn.2.2; omega
 have h64 := pow_le64 hh6
 have hp0 : 0 < 2 ^ h := Nat.pow_pos (by decide)
 have hPl := pubK_length s n h
 have hshp : Shp v_l (2 ^ h) := by have := hLv.shp; rwa [leavesK_length] at this
 refine wp_seq_k fun K1 hK1 => ?_
 refine wp_region_lit ?_
 refine sl hA (lo_allocA hH ti24) rfl ?_
 clear hH; rintro _ w ⟨b_t2, rfl, hH⟩ a hA
 refine wpList_nil ?_
 refine hK1 _ _ ?_
 clear hK1
 refine wp_seq_k fun K2 hK2 => ?_
 refine wp_seq_k fun K3 hK3 => ?_
 refine wp_region_lit ?_
 refine mv hA fun a hA => ?_
 refine sq hA (q_ptrNil Tryd.underlying83 rfl rfl) rfl fun a hA => ?_
 refine wpList_nil ?_
 refine hK3 _ _ ?_
 clear hK3
 replace hA := hA.s3 4 2 0
 refine cond_f hA rfl ?_
 refine wp_skip ?_
 refine hK2 _ _ ?_
 clear hK2
 replace hA := hA.s2 2 0
 refine wp_seq_k fun K4 hK4 => ?_
 refine wp_region_lit ?_
 refine mv hA fun a hA => ?_
 refine sq hA (q_nilCheck rfl) rfl fun a hA => ?_
 refine sq hA (q_fld 0 Tryd.underlying147 rfl rfl ti48 rfl) rfl fun a hA => ?_
 refine sq hA (q_loadB hH 1 rfl (List.mem_singleton.2 rfl) Tryd.underlying48 rfl rfl rfl) rfl fun a hA => ?_
 replace hH := hH.pick [2, 0, 1, 3] (Hs' := [_, _, _, _]) rfl
 refine sl hA (lo_call fn30 rfl (public7_any _ _ _ _ hPl _ _ _ hshp (by first | exact Nat.zero_le _ | omega | decide) (by first | assumption | omega | decide) (HS.handed (Ns1 := [_]) hH))) rfl ?_
 rintro _ w ⟨rfl, hC⟩ a hA
 replace hH := HS.call (Ns1 := [_]) hH hC
 clear hC
 replace hH := hH.pick [1, 0, 2, 3] (Hs' := [_, _, _, _]) rfl
 refine s0 hA (lo_storeAm hH ti24 rfl rfl (by first | omega | (simp; done) | (simp; omega) | (rw [List.length_map]; assumption) | assumption | rfl | (simp [*]; done) | (simp [*]; omega)) (by first | omega | (simp; done) | (simp; omega) | (rw [List.length_map]; assumption) | assumption | rfl | (simp [*]; done) | (simp [*]; omega)) (one_B8 _)) ?_
 clear hH; rintro _ w hH
 refine wpList_nil ?_
 refine hK4 _ _ ?_
 clear hK4
 replace hA := hA.s1 2
 refine wp_ret ?_
 refine post_ret hA (res_c rfl hA rfl (resW hH 0 rfl Tryd.underlying24 rfl ti24 (by first | assumption | (rw [List.length_map]; assumption) | rfl | exact sha_length _ | (simp; done) | (simp [*]; done) | omega))) ?_
 replace hH := hH.pick [2, 1, 3, 0] (Hs' := [_, _, _, _]) rfl
 replace hH := hH.pick [0, 1, 2] (Hs' := [_, _, _]) rfl
 exact ⟨_, rfl, rfl, hH⟩

theorem great22_any {w0 : World} (jj aa ii : Int) (tv pv : Value) (T Pl : Bs) (htv : By [] w0 tv T) (hpv : By [] w0 pv Pl) (hlT : T.length ≤ 1048576) (hlP : Pl.length ≤ 1048576) (nn : Bs) (hnn : nn.length = 32) :
    Calls Tryd.prog 34 #[(.agg (ordC jj aa ii tv pv nn).toArray)] w0 (Ret fun r w' => r = .bool (decide (300 < T.length ∨ 300 < Pl.length)) ∧ HS [] w0 w' []) := by
 have hH := HS.start w0
 refine start (n := 13) (E := [(0, _)]) Tryd.func34 rfl rfl rfl (args_look rfl) ?_
 intro a hA
 refine wp_seq_k fun K1 hK1 => ?_
 refine wp_region_lit ?_
 refine sl hA (lo_boxA hH rfl) rfl ?_
 clear hH; rintro _ w ⟨b_t1, rfl, hH⟩ a hA
 refine asg hA fun a hA => ?_
 refine wpList_nil ?_
 refine hK1 _ _ ?_
 clear hK1
 replace hA := hA.s2 2 1
 refine wp_seq_k fun K2 hK2 => ?_
 refine wp_region_lit ?_
 refine sq hA (q_fld 3 Tryd.underlying64 rfl rfl ti22 rfl) rfl fun a hA => ?_
 refine sq hA (q_loadB hH 0 rfl (List.mem_singleton.2 rfl) Tryd.underlying22 rfl rfl rfl) rfl fun a hA => ?_
 refine sq hA (q_len Tryd.underlying22 rfl (Rd.shp htv)) rfl fun a hA => ?_
 refine sq hA (q_gtrI (n := 300) rfl rfl) rfl fun a hA => ?_
 refine hA.spl (fun hs6 hA => ?_) (fun hs6 hA => ?_)
 ·skip
  refine mv hA fun a hA => ?_
  refine gs hA rfl rfl rfl rfl fun a hA => ?_
  refine gs hA rfl rfl rfl rfl fun a hA => ?_
  refine gs hA rfl rfl rfl rfl fun a hA => ?_
  refine gs hA rfl rfl rfl rfl fun a hA => ?_
  refine sq hA (q_pick_t rfl rfl) rfl fun a hA => ?_
  refine asg hA fun a hA => ?_
  refine wpList_nil ?_
  refine hK2 _ _ ?_
  clear hK2
  replace hA := hA.s1 2
  refine wp_ret ?_
  refine post_ret hA (res_1 rfl hA rfl) ?_
  replace hH := hH.pick [] (Hs' := []) rfl
  exact ⟨_, rfl, by congr 1; symm; first | exact decide_eq_false (by omega) | exact decide_eq_true (by omega) | exact decide_eq_decide.2 (by omega), hH⟩
 ·skip
  refine mv hA fun a hA => ?_
  refine gq hA rfl rfl (q_fld 4 Tryd.underlying64 rfl rfl ti22 rfl) rfl fun a hA => ?_
  refine gq hA rfl rfl (q_loadB hH 0 rfl (List.mem_singleton.2 rfl) Tryd.underlying22 rfl rfl rfl) rfl fun a hA => ?_
  refine gq hA rfl rfl (q_len Tryd.underlying22 rfl (Rd.shp hpv)) rfl fun a hA => ?_
  refine gq hA rfl rfl (q_gtrI (n := 300) rfl rfl) rfl fun a hA => ?_
  refine sq hA (q_pick_f rfl rfl) rfl fun a hA => ?_
  refine asg hA fun a hA => ?_
  refine wpList_nil ?_
  refine hK2 _ _ ?_
  clear hK2
  replace hA := hA.s1 2
  refine wp_ret ?_
  refine post_ret hA (res_1 rfl hA rfl) ?_
  replace hH := hH.pick [] (Hs' := []) rfl
  exact ⟨_, rfl, by congr 1; symm; first | exact decide_eq_false (by omega) | exact decide_eq_true (by omega) | exact decide_eq_decide.2 (by omega), hH⟩

theorem own22_any {w0 : World} (jj aa ii : Int) (tv pv : Value) (T Pl : Bs) (htv : By [] w0 tv T) (hpv : By [] w0 pv Pl) (hlT : T.length ≤ 1048576) (hlP : Pl.length ≤ 1048576) (nn : Bs) (hnn : nn.length = 32) :
    Calls Tryd.prog 37 #[(.agg (ordC jj aa ii tv pv nn).toArray)] w0 (Ret fun r w' => ∃ t p N1 N2, r = (.agg (ordC jj aa ii t p nn).toArray) ∧ Ow B8 5 t T N1 ∧ Ow B8 5 p Pl N2 ∧ HS [] w0 w' [N1, N2]) := by
 have hH := HS.start w0
 refine start (n := 14) (E := [(0, _)]) Tryd.func37 rfl rfl rfl (args_look rfl) ?_
 intro a hA
 refine wp_seq_k fun K1 hK1 => ?_
 refine wp_region_lit ?_
 refine sl hA (lo_boxA hH rfl) rfl ?_
 clear hH; rintro _ w ⟨b_t1, rfl, hH⟩ a hA
 refine sl hA (lo_allocA hH ti64) rfl ?_
 clear hH; rintro _ w ⟨b_t2, rfl, hH⟩ a hA
 refine wpList_nil ?_
 refine hK1 _ _ ?_
 clear hK1
 replace hA := hA.s2 2 1
 refine wp_seq_k fun K2 hK2 => ?_
 refine wp_region_lit ?_
 refine sl hA (lo_bs (f := B8) (e := 5) ([]) hH rfl rfl (fun w => by kernel_rfl)) rfl ?_
 clear hH; rintro v_t3 w ⟨N_t3, hO_t3, hH⟩ a hA
 refine sq hA (q_fld 3 Tryd.underlying64 rfl rfl ti22 rfl) rfl fun a hA => ?_
 refine sq hA (q_loadB hH 2 rfl (List.mem_singleton.2 rfl) Tryd.underlying22 rfl rfl rfl) rfl fun a hA => ?_
 refine sl hA (lo_appm hH Tryd.underlying22 Tryd.underlying22 (.inl rfl) ti5 rfl rfl rfl hO_t3 (Rd.src (hH.rd htv)) (one_B8 _) (by first | omega | (simp; done) | (simp; omega)) (by first | omega | (simp; done) | (simp; omega))) rfl ?_
 clear hH; rintro v_t6 w ⟨N_t6, hO_t6, hH⟩ a hA
 refine sq hA (q_fld 3 Tryd.underlying64 rfl rfl ti22 rfl) rfl fun a hA => ?_
 replace hH := hH.pick [2, 0, 1] (Hs' := [_, _, _]) rfl
 refine s0 hA (lo_store1 hH ti22 rfl rfl (by first | rfl | exact ordC_length hnn | (rw [ordC_length hnn]; decide)) (Own.one hO_t6)) ?_
 clear hH; rintro _ w hH
 rw [ordC_set3] at hH
 refine wpList_nil ?_
 refine hK2 _ _ ?_
 clear hK2
 replace hA := hA.s2 2 1
 refine wp_seq_k fun K3 hK3 => ?_
 refine wp_region_lit ?_
 refine sl hA (lo_bs (f := B8) (e := 5) ([]) hH rfl rfl (fun w => by kernel_rfl)) rfl ?_
 clear hH; rintro v_t8 w ⟨N_t8, hO_t8, hH⟩ a hA
 refine sq hA (q_fld 4 Tryd.underlying64 rfl rfl ti22 rfl) rfl fun a hA => ?_
 refine sq hA (q_loadB hH 1 rfl (List.mem_singleton.2 rfl) Tryd.underlying22 rfl rfl rfl) rfl fun a hA => ?_
 refine sl hA (lo_appm hH Tryd.underlying22 Tryd.underlying22 (.inl rfl) ti5 rfl rfl rfl hO_t8 (Rd.src (hH.rd hpv)) (one_B8 _) (by first | omega | (simp; done) | (simp; omega)) (by first | omega | (simp; done) | (simp; omega))) rfl ?_
 clear hH; rintro v_t11 w ⟨N_t11, hO_t11, hH⟩ a hA
 refine sq hA (q_fld 4 Tryd.underlying64 rfl rfl ti22 rfl) rfl fun a hA => ?_
 replace hH := hH.pick [1, 0, 2, 3] (Hs' := [_, _, _, _]) rfl
 refine s0 hA (lo_store1 hH ti22 rfl rfl (by first | rfl | exact ordC_length hnn | (rw [ordC_length hnn]; decide)) (Own.one hO_t11)) ?_
 clear hH; rintro _ w hH
 rw [ordC_set4] at hH
 refine wpList_nil ?_
 refine hK3 _ _ ?_
 clear hK3
 replace hA := hA.s2 2 1
 refine wp_seq_k fun K4 hK4 => ?_
 refine wp_region_lit ?_
 refine sq hA (q_loadW hH 0 rfl Tryd.underlying64 rfl ti64 rfl (by first | rfl | exact ordC_length hnn | (rw [ordC_length hnn]; decide))) rfl fun a hA => ?_
 replace hH := hH.pick [3, 0, 1, 2] (Hs' := [_, _, _, _]) rfl
 refine s0 hA (lo_storeAm hH ti64 rfl rfl (by first | rfl | exact ordC_length hnn | (rw [ordC_length hnn]; decide)) (by first | rfl | exact ordC_length hnn | (rw [ordC_length hnn]; decide)) (ordC_one (Own.one hO_t6) (Own.one hO_t11))) ?_
 clear hH; rintro _ w hH
 refine wpList_nil ?_
 refine hK4 _ _ ?_
 clear hK4
 replace hA := hA.s1 2
 refine wp_ret ?_
 refine post_ret hA (res_c rfl hA rfl (resW hH 0 rfl Tryd.underlying64 rfl ti64 (by first | rfl | exact ordC_length hnn | (rw [ordC_length hnn]; decide)))) ?_
 replace hH := hH.pick [3, 2, 0, 1] (Hs' := [_, _, _, _]) rfl
 replace hH := hH.pick [0, 1] (Hs' := [_, _]) rfl
 exact ⟨_, rfl, v_t6, v_t11, N_t6, N_t11, rfl, by simpa using hO_t6, by simpa using hO_t11, hH⟩

theorem refin22_any {w0 : World} (n : Int) :
    Calls Tryd.prog 100 #[I n] w0 (Ret fun r w' => r = .bool (decide (0 ≤ n ∧ n ≤ 1099511627776)) ∧ HS [] w0 w' []) := by
 have hH := HS.start w0
 refine start (n := 9) (E := [(0, _)]) Tryd.func100 rfl rfl rfl (args_look rfl) ?_
 intro a hA
 refine wp_seq_k fun K1 hK1 => ?_
 refine wp_region_lit ?_
 refine asg hA fun a hA => ?_
 refine wpList_nil ?_
 refine hK1 _ _ ?_
 clear hK1
 refine wp_seq_k fun K2 hK2 => ?_
 refine wp_region_lit ?_
 refine mv hA fun a hA => ?_
 refine sq hA (q_geqI (n := 0) rfl rfl) rfl fun a hA => ?_
 refine hA.spl (fun hs4 hA => ?_) (fun hs4 hA => ?_)
 ·skip
  refine mv hA fun a hA => ?_
  refine gq hA rfl rfl (q_move rfl) rfl fun a hA => ?_
  refine gq hA rfl rfl (q_leqI (n := 1099511627776) rfl rfl) rfl fun a hA => ?_
  refine sq hA (q_pick_t rfl rfl) rfl fun a hA => ?_
  refine asg hA fun a hA => ?_
  refine wpList_nil ?_
  refine hK2 _ _ ?_
  clear hK2
  replace hA := hA.s1 2
  refine wp_ret ?_
  refine post_ret hA (res_1 rfl hA rfl) ?_
  exact ⟨_, rfl, by congr 1; symm; first | exact decide_eq_false (by omega) | exact decide_eq_true (by omega) | exact decide_eq_decide.2 (by omega), hH⟩
 ·skip
  refine mv hA fun a hA => ?_
  refine gs hA rfl rfl rfl rfl fun a hA => ?_
  refine gs hA rfl rfl rfl rfl fun a hA => ?_
  refine sq hA (q_pick_f rfl rfl) rfl fun a hA => ?_
  refine asg hA fun a hA => ?_
  refine wpList_nil ?_
  refine hK2 _ _ ?_
  clear hK2
  replace hA := hA.s1 2
  refine wp_ret ?_
  refine post_ret hA (res_1 rfl hA rfl) ?_
  exact ⟨_, rfl, by congr 1; symm; first | exact decide_eq_false (by omega) | exact decide_eq_true (by omega) | exact decide_eq_decide.2 (by omega), hH⟩

theorem refmay22_any {w0 : World} (jj aa ii : Int) (tv pv : Value) (T Pl : Bs) (htv : By [] w0 tv T) (hpv : By [] w0 pv Pl) (hlT : T.length ≤ 1048576) (hlP : Pl.length ≤ 1048576) (nn : Bs) (hnn : nn.length = 32) :
    Calls Tryd.prog 52 #[(.agg (ordC jj aa ii tv pv nn).toArray)] w0 (Ret fun r w' => r = .bool (decide (MayO jj aa ii T Pl)) ∧ HS [] w0 w' []) := by
 have hH := HS.start w0
 refine start (n := 28) (E := [(0, _)]) Tryd.func52 rfl rfl rfl (args_look rfl) ?_
 intro a hA
 refine wp_seq_k fun K1 hK1 => ?_
 refine wp_region_lit ?_
 refine sl hA (lo_boxA hH rfl) rfl ?_
 clear hH; rintro _ w ⟨b_t1, rfl, hH⟩ a hA
 refine asg hA fun a hA => ?_
 refine wpList_nil ?_
 refine hK1 _ _ ?_
 clear hK1
 replace hA := hA.s2 2 1
 refine wp_seq_k fun K2 hK2 => ?_
 refine wp_region_lit ?_
 refine sq hA (q_fld 0 Tryd.underlying64 rfl rfl ti3 rfl) rfl fun a hA => ?_
 refine sq hA (q_loadB hH 0 rfl (List.mem_singleton.2 rfl) Tryd.underlying3 rfl rfl rfl) rfl fun a hA => ?_
 refine sl hA (lo_call fn100 rfl (refin22_any _)) rfl ?_
 rintro _ w ⟨rfl, hC⟩ a hA
 replace hH := HS.call0 hH hC
 clear hC
 refine hA.spl (fun hs5 hA => ?_) (fun hs5 hA => ?_)
 ·skip
  refine mv hA fun a hA => ?_
  refine gq hA rfl rfl (q_fld 1 Tryd.underlying64 rfl rfl ti3 rfl) rfl fun a hA => ?_
  refine gq hA rfl rfl (q_loadB hH 0 rfl (List.mem_singleton.2 rfl) Tryd.underlying3 rfl rfl rfl) rfl fun a hA => ?_
  refine gl hA rfl rfl (lo_call fn100 rfl (refin22_any _)) rfl ?_
  rintro _ w ⟨rfl, hC⟩ a hA
  replace hH := HS.call0 hH hC
  clear hC
  refine sq hA (q_pick_t rfl rfl) rfl fun a hA => ?_
  refine hA.spl (fun hs10 hA => ?_) (fun hs10 hA => ?_)
  ·skip
   refine mv hA fun a hA => ?_
   refine gq hA rfl rfl (q_fld 2 Tryd.underlying64 rfl rfl ti3 rfl) rfl fun a hA => ?_
   refine gq hA rfl rfl (q_loadB hH 0 rfl (List.mem_singleton.2 rfl) Tryd.underlying3 rfl rfl rfl) rfl fun a hA => ?_
   refine gl hA rfl rfl (lo_call fn100 rfl (refin22_any _)) rfl ?_
   rintro _ w ⟨rfl, hC⟩ a hA
   replace hH := HS.call0 hH hC
   clear hC
   refine sq hA (q_pick_t rfl rfl) rfl fun a hA => ?_
   refine hA.spl (fun hs15 hA => ?_) (fun hs15 hA => ?_)
   ·skip
    refine mv hA fun a hA => ?_
    refine gq hA rfl rfl (q_fld 3 Tryd.underlying64 rfl rfl ti22 rfl) rfl fun a hA => ?_
    refine gq hA rfl rfl (q_loadB hH 0 rfl (List.mem_singleton.2 rfl) Tryd.underlying22 rfl rfl rfl) rfl fun a hA => ?_
    refine gq hA rfl rfl (q_len Tryd.underlying22 rfl (Rd.shp htv)) rfl fun a hA => ?_
    refine gq hA rfl rfl (q_leqI (n := 100) rfl rfl) rfl fun a hA => ?_
    refine sq hA (q_pick_t rfl rfl) rfl fun a hA => ?_
    refine hA.spl (fun hs21 hA => ?_) (fun hs21 hA => ?_)
    ·skip
     refine mv hA fun a hA => ?_
     refine gq hA rfl rfl (q_fld 4 Tryd.underlying64 rfl rfl ti22 rfl) rfl fun a hA => ?_
     refine gq hA rfl rfl (q_loadB hH 0 rfl (List.mem_singleton.2 rfl) Tryd.underlying22 rfl rfl rfl) rfl fun a hA => ?_
     refine gq hA rfl rfl (q_len Tryd.underlying22 rfl (Rd.shp hpv)) rfl fun a hA => ?_
     refine gq hA rfl rfl (q_leqI (n := 64) rfl rfl) rfl fun a hA => ?_
     refine sq hA (q_pick_t rfl rfl) rfl fun a hA => ?_
     refine asg hA fun a hA => ?_
     refine wpList_nil ?_
     refine hK2 _ _ ?_
     clear hK2
     replace hA := hA.s1 2
     refine wp_ret ?_
     refine post_ret hA (res_1 rfl hA rfl) ?_
     replace hH := hH.pick [] (Hs' := []) rfl
     exact ⟨_, rfl, by congr 1; symm; first | exact decide_eq_false (by unfold MayO; omega) | exact decide_eq_true (by unfold MayO; omega) | exact decide_eq_decide.2 (by unfold MayO; omega), hH⟩
    ·skip
     refine mv hA fun a hA => ?_
     refine gs hA rfl rfl rfl rfl fun a hA => ?_
     refine gs hA rfl rfl rfl rfl fun a hA => ?_
     refine gs hA rfl rfl rfl rfl fun a hA => ?_
     refine gs hA rfl rfl rfl rfl fun a hA => ?_
     refine sq hA (q_pick_f rfl rfl) rfl fun a hA => ?_
     refine asg hA fun a hA => ?_
     refine wpList_nil ?_
     refine hK2 _ _ ?_
     clear hK2
     replace hA := hA.s1 2
     refine wp_ret ?_
     refine post_ret hA (res_1 rfl hA rfl) ?_
     replace hH := hH.pick [] (Hs' := []) rfl
     exact ⟨_, rfl, by congr 1; symm; first | exact decide_eq_false (by unfold MayO; omega) | exact decide_eq_true (by unfold MayO; omega) | exact decide_eq_decide.2 (by unfold MayO; omega), hH⟩
   ·skip
    refine mv hA fun a hA => ?_
    refine gs hA rfl rfl rfl rfl fun a hA => ?_
    refine gs hA rfl rfl rfl rfl fun a hA => ?_
    refine gs hA rfl rfl rfl rfl fun a hA => ?_
    refine gs hA rfl rfl rfl rfl fun a hA => ?_
    refine sq hA (q_pick_f rfl rfl) rfl fun a hA => ?_
    refine mv hA fun a hA => ?_
    refine gs hA rfl rfl rfl rfl fun a hA => ?_
    refine gs hA rfl rfl rfl rfl fun a hA => ?_
    refine gs hA rfl rfl rfl rfl fun a hA => ?_
    refine gs hA rfl rfl rfl rfl fun a hA => ?_
    refine sq hA (q_pick_f rfl rfl) rfl fun a hA => ?_
    refine asg hA fun a hA => ?_
    refine wpList_nil ?_
    refine hK2 _ _ ?_
    clear hK2
    replace hA := hA.s1 2
    refine wp_ret ?_
    refine post_ret hA (res_1 rfl hA rfl) ?_
    replace hH := hH.pick [] (Hs' := []) rfl
    exact ⟨_, rfl, by congr 1; symm; first | exact decide_eq_false (by unfold MayO; omega) | exact decide_eq_true (by unfold MayO; omega) | exact decide_eq_decide.2 (by unfold MayO; omega), hH⟩
  ·skip
   refine mv hA fun a hA => ?_
   refine gs hA rfl rfl rfl rfl fun a hA => ?_
   refine gs hA rfl rfl rfl rfl fun a hA => ?_
   refine gs hA rfl rfl rfl rfl fun a hA => ?_
   refine sq hA (q_pick_f rfl rfl) rfl fun a hA => ?_
   refine mv hA fun a hA => ?_
   refine gs hA rfl rfl rfl rfl fun a hA => ?_
   refine gs hA rfl rfl rfl rfl fun a hA => ?_
   refine gs hA rfl rfl rfl rfl fun a hA => ?_
   refine gs hA rfl rfl rfl rfl fun a hA => ?_
   refine sq hA (q_pick_f rfl rfl) rfl fun a hA => ?_
   refine mv hA fun a hA => ?_
   refine gs hA rfl rfl rfl rfl fun a hA => ?_
   refine gs hA rfl rfl rfl rfl fun a hA => ?_
   refine gs hA rfl rfl rfl rfl fun a hA => ?_
   refine gs hA rfl rfl rfl rfl fun a hA => ?_
   refine sq hA (q_pick_f rfl rfl) rfl fun a hA => ?_
   refine asg hA fun a hA => ?_
   refine wpList_nil ?_
   refine hK2 _ _ ?_
   clear hK2
   replace hA := hA.s1 2
   refine wp_ret ?_
   refine post_ret hA (res_1 rfl hA rfl) ?_
   replace hH := hH.pick [] (Hs' := []) rfl
   exact ⟨_, rfl, by congr 1; symm; first | exact decide_eq_false (by unfold MayO; omega) | exact decide_eq_true (by unfold MayO; omega) | exact decide_eq_decide.2 (by unfold MayO; omega), hH⟩
 ·skip
  refine mv hA fun a hA => ?_
  refine gs hA rfl rfl rfl rfl fun a hA => ?_
  refine gs hA rfl rfl rfl rfl fun a hA => ?_
  refine gs hA rfl rfl rfl rfl fun a hA => ?_
  refine sq hA (q_pick_f rfl rfl) rfl fun a hA => ?_
  refine mv hA fun a hA => ?_
  refine gs hA rfl rfl rfl rfl fun a hA => ?_
  refine gs hA rfl rfl rfl rfl fun a hA => ?_
  refine gs hA rfl rfl rfl rfl fun a hA => ?_
  refine sq hA (q_pick_f rfl rfl) rfl fun a hA => ?_
  refine mv hA fun a hA => ?_
  refine gs hA rfl rfl rfl rfl fun a hA => ?_
  refine gs hA rfl rfl rfl rfl fun a hA => ?_
  refine gs hA rfl rfl rfl rfl fun a hA => ?_
  refine gs hA rfl rfl rfl rfl fun a hA => ?_
  refine sq hA (q_pick_f rfl rfl) rfl fun a hA => ?_
  refine mv hA fun a hA => ?_
  refine gs hA rfl rfl rfl rfl fun a hA => ?_
  refine gs hA rfl rfl rfl rfl fun a hA => ?_
  refine gs hA rfl rfl rfl rfl fun a hA => ?_
  refine gs hA rfl rfl rfl rfl fun a hA => ?_
  refine sq hA (q_pick_f rfl rfl) rfl fun a hA => ?_
  refine asg hA fun a hA => ?_
  refine wpList_nil ?_
  refine hK2 _ _ ?_
  clear hK2
  replace hA := hA.s1 2
  refine wp_ret ?_
  refine post_ret hA (res_1 rfl hA rfl) ?_
  replace hH := hH.pick [] (Hs' := []) rfl
  exact ⟨_, rfl, by congr 1; symm; first | exact decide_eq_false (by unfold MayO; omega) | exact decide_eq_true (by unfold MayO; omega) | exact decide_eq_decide.2 (by unfold MayO; omega), hH⟩

end Go.Proofs.YtnnkgdijaekcfaaDoor
