/- Layer 7 (keys): a signature's bytes. -/
import Derived.Test.YtnnkgdijaekcfaaGreatDoorHc
import Derived.Test.YtnnkgdijaekcfaaGreatDoorEa
import Derived.Test.YtnnkgdijaekcfaaGreatDoorMzc
namespace Go.Proofs.YtnnkgdijaekcfaaGreatDoor
open Go
set_option linter.unusedVariables false
set_option linter.unusedSimpArgs false
set_option maxRecDepth 100000

theorem enc7_any {w0 : World} (ix : Int) (ua xa : Value) (A B : List Bs) (hdA : Dg A) (hdB : Dg B) (hua : RdD [] w0 ua A) (hxa : RdD [] w0 xa B) (hlA : A.length ≤ 1048576) (hlB : B.length ≤ 1048576) (hi9 : ix ≤ 9223372036854775807) :
    Calls Tryz.prog 71 #[(.agg #[I ix, ua, xa])] w0 (Ret fun r w' => ∃ v' N, v' = r ∧ Ow B8 5 v' (encK ix A B) N ∧ HS [] w0 w' [N]) := by
 have hH := HS.start w0
 refine start (n := 35) (E := [(0, _)]) Tryz.func71 rfl rfl rfl (args_look rfl) ?_
 intro a hA
 obtain ⟨W, hW⟩ : ∃ W, W = wnum (max ix 0).toNat := ⟨_, rfl⟩
 have hWl : W.length ≤ 9 := by rw [hW, wnum_length]; have := wd_le (n := (max ix 0).toNat) (by omega); omega
 refine wp_seq_k fun K1 hK1 => ?_
 refine wp_region_lit ?_
 refine sl hA (lo_boxA hH rfl) rfl ?_
 clear hH; rintro _ w ⟨b_t1, rfl, hH⟩ a hA
 refine asg hA fun a hA => ?_
 refine wpList_nil ?_
 refine hK1 _ _ ?_
 clear hK1
 replace hA := hA.s2 2 1
 refine wp_seq_k fun K2 hK2 => ?_
 refine wp_region_lit ?_
 refine sq hA (q_fld 0 Tryz.underlying81 rfl rfl ti3 rfl) rfl fun a hA => ?_
 refine sq hA (q_loadB hH 0 rfl (List.mem_singleton.2 rfl) Tryz.underlying3 rfl rfl rfl) rfl fun a hA => ?_
 refine sq hA (q_maxI (n := 0) rfl rfl) rfl fun a hA => ?_
 rw [max0] at hA
 refine sq hA (q_cvI64 Tryz.underlying3 Tryz.underlying97 rfl) rfl fun a hA => ?_
 refine sl hA (lo_call fn40 rfl (wnum_any _)) rfl ?_
 rintro _ w ⟨v_t12, N_t12, rfl, hO_t12, hC⟩ a hA
 replace hH := HS.call0 hH hC
 clear hC
 rw [max0_toNat hi9, ← hW] at hO_t12
 refine asg hA fun a hA => ?_
 refine wpList_nil ?_
 refine hK2 _ _ ?_
 clear hK2
 replace hA := hA.s3 3 2 1
 refine wp_seq_k fun K3 hK3 => ?_
 refine wp_seq_k fun K4 hK4 => ?_
 refine wp_region_lit ?_
 refine sq hA (q_fld 1 Tryz.underlying81 rfl rfl ti69 rfl) rfl fun a hA => ?_
 refine sq hA (q_loadB hH 1 rfl (List.mem_singleton.2 rfl) Tryz.underlying69 rfl rfl rfl) rfl fun a hA => ?_
 refine sq hA (q_fld 2 Tryz.underlying81 rfl rfl ti69 rfl) rfl fun a hA => ?_
 refine sq hA (q_loadB hH 1 rfl (List.mem_singleton.2 rfl) Tryz.underlying69 rfl rfl rfl) rfl fun a hA => ?_
 refine sl hA (lo_build2 hH Tryz.underlying167 ti69 rfl rfl (Rd.one hua) (Rd.one hxa)) rfl ?_
 clear hH; rintro v_t17 w ⟨N_t17, hO_t17, hH⟩ a hA
 refine sq hA (q_len Tryz.underlying167 rfl (Own.shp hO_t17)) rfl fun a hA => ?_
 refine mv hA fun a hA => ?_
 refine wpList_nil ?_
 refine hK4 _ _ ?_
 clear hK4
 replace hA := hA.s5 19 18 17 3 2
 refine wp_block ?_
 replace hH := hH.pick [1, 0, 2] (Hs' := [_, _, _]) rfl
 replace hH := HS.fold [_, _] [_] hH
 obtain ⟨NR5, hNR5, hH⟩ := hH
 refine wp_loop_ghost (fun gm a w => ∃ i : Nat, ∃ v_o : Value, ∃ N_o : Hl, At 35 [(19, I i), (18, I 2), (17, v_t17), (3, v_o), (2, (.slice none 0 0))] a ∧ HS [] w0 w ([N_o, N_t17, NR5]) ∧ (i ≤ 2) ∧ (Ow B8 5 v_o (encTo W A B i) N_o) ∧ gm = 2 - i) (2 - (0)) ⟨0, v_t12, N_t12, hA.sub ⟨rfl, rfl, rfl, rfl, rfl, trivial⟩, hH, by omega, by exact hO_t12, rfl⟩ ?_
 clear hA hH
 rintro gm a w ⟨i, v_o, N_o, hA, hH, hi, hO_o, rfl⟩
 refine wp_seq_k fun K6 hK6 => ?_
 refine wp_region_lit ?_
 refine sq hA (q_lssI rfl rfl) rfl fun a hA => ?_
 refine wpList_nil ?_
 refine hK6 _ _ ?_
 clear hK6
 refine wp_seq_k fun K7 hK7 => ?_
 refine cond_d hA rfl (fun hc20 => ?_) (fun hc20 => ?_)
 ·skip
  refine wp_skip ?_
  refine hK7 _ _ ?_
  clear hK7
  refine wp_seq_k fun K8 hK8 => ?_
  refine wp_block ?_
  refine wp_seq_k fun K9 hK9 => ?_
  refine wp_region_lit ?_
  refine sq hA (q_idx1 (i) Tryz.underlying167 ti69 rfl rfl (by first | omega | rfl) (Own.shp hO_t17) (by first | omega | (simp; done) | (simp; omega) | (rw [List.length_map]; assumption) | assumption | rfl | (simp [*]; done) | (simp [*]; omega))) rfl fun a hA => ?_
  rcases (show i = 0 ∨ i = 1 by omega) with rfl | rfl
  ·skip
   refine sq hA (q_loadR Tryz.underlying69 rfl rfl (Own.rd0 hO_t17 hH 1 rfl) (by omega) rfl) rfl fun a hA => ?_
   refine asg hA fun a hA => ?_
   refine wpList_nil ?_
   refine hK9 _ _ ?_
   clear hK9
   refine wp_seq_k fun K10 hK10 => ?_
   refine wp_region_lit ?_
   refine mv hA fun a hA => ?_
   refine sq hA (q_len Tryz.underlying69 rfl (Rd.shp hua)) rfl fun a hA => ?_
   refine mv hA fun a hA => ?_
   refine wpList_nil ?_
   refine hK10 _ _ ?_
   clear hK10
   refine wp_block ?_
   replace hH := HS.fold [_] [_, _] hH
   obtain ⟨NR11, hNR11, hH⟩ := hH
   refine wp_loop_ghost (fun gm a w => ∃ j : Nat, ∃ v_p : Value, ∃ N_p : Hl, At 35 [(25, I j), (24, I A.length), (23, ua), (5, ua), (22, ua), (19, I ((0 : Nat) : Int)), (18, (I 2)), (17, v_t17), (3, v_p), (2, (.slice none 0 0))] a ∧ HS [] w0 w ([N_p, NR11]) ∧ (j ≤ A.length) ∧ (Ow B8 5 v_p (encTo W A B 0 ++ (A.take j).flatten) N_p) ∧ gm = A.length - j) (A.length - (0)) ⟨0, v_o, N_o, hA.sub ⟨rfl, rfl, rfl, rfl, rfl, rfl, rfl, rfl, rfl, rfl, trivial⟩, hH, by omega, by simpa using hO_o, rfl⟩ ?_
   clear hA hH
   rintro gm a w ⟨j, v_p, N_p, hA, hH, hj, hO_p, rfl⟩
   have hl1 := encTo_len hWl hdA hdB 0
   have hl2 := take_flat_len hdA j
   refine wp_seq_k fun K12 hK12 => ?_
   refine wp_region_lit ?_
   refine sq hA (q_lssI rfl rfl) rfl fun a hA => ?_
   refine wpList_nil ?_
   refine hK12 _ _ ?_
   clear hK12
   refine wp_seq_k fun K13 hK13 => ?_
   refine cond_d hA rfl (fun hc26 => ?_) (fun hc26 => ?_)
   ·skip
    refine wp_skip ?_
    refine hK13 _ _ ?_
    clear hK13
    refine wp_seq_k fun K14 hK14 => ?_
    refine wp_block ?_
    refine wp_seq_k fun K15 hK15 => ?_
    refine wp_region_lit ?_
    refine sq hA (q_idxk (j) Tryz.underlying69 ti25 rfl rfl (by first | omega | rfl) (Rd.shp hua) (by first | omega | (simp; done) | (simp; omega) | (rw [List.length_map]; assumption) | assumption | rfl | (simp [*]; done) | (simp [*]; omega))) rfl fun a hA => ?_
    have hrl := hdA.getD (i := j) (by omega)
    refine sq hA (q_loadRA (i := j) Tryz.underlying25 rfl ti25 rfl (hH.rd hua) (by first | omega | (simp; done) | (simp; omega) | (rw [List.length_map]; assumption) | assumption | rfl | (simp [*]; done) | (simp [*]; omega)) _ (dc_at (by assumption) (by first | omega | (simp; done) | (simp; omega) | (rw [List.length_map]; assumption) | assumption | rfl | (simp [*]; done) | (simp [*]; omega)))) rfl fun a hA => ?_
    refine sl hA (lo_allocA hH ti25) rfl ?_
    clear hH; rintro _ w ⟨b_t7, rfl, hH⟩ a hA
    refine s0 hA (lo_storeAm hH ti25 rfl rfl (by first | omega | (simp; done) | (simp; omega) | (rw [List.length_map]; assumption) | assumption | rfl | (simp [*]; done) | (simp [*]; omega)) (by first | omega | (simp; done) | (simp; omega) | (rw [List.length_map]; assumption) | assumption | rfl | (simp [*]; done) | (simp [*]; omega)) (one_B8 _)) ?_
    clear hH; rintro _ w hH
    refine wpList_nil ?_
    refine hK15 _ _ ?_
    clear hK15
    refine wp_region_lit ?_
    refine mv hA fun a hA => ?_
    refine sq hA (q_sliceAll Tryz.underlying25 ti5 rfl) rfl fun a hA => ?_
    replace hH := hH.pick [1, 0, 2] (Hs' := [_, _, _]) rfl
    refine sl hA (lo_appm hH Tryz.underlying41 Tryz.underlying41 (.inl rfl) ti5 rfl rfl rfl hO_p (Rd.src (HS.byB hH 1 rfl hrl)) (one_B8 _) (by first | omega | (simp only [List.length_append]; omega)) (by first | omega | (simp only [List.length_append]; omega))) rfl ?_
    clear hH; rintro v_t31 w ⟨N_t31, hO_t31, hH⟩ a hA
    refine asg hA fun a hA => ?_
    refine wpList_nil ?_
    refine block_normal ?_
    refine hK14 _ _ ?_
    clear hK14
    refine wp_region_lit ?_
    refine sq hA (q_addI (n := 1) rfl rfl (by omega)) rfl fun a hA => ?_
    refine mv hA fun a hA => ?_
    refine wpList_nil ?_
    replace hH := hH.pick [0, 2, 1] (Hs' := [_, _, _]) rfl
    replace hH := hH.pick [0, 1] (Hs' := [_, _]) rfl
    exact ⟨_, by omega, j + 1, v_t31, N_t31, hA.sub ⟨rfl, rfl, rfl, rfl, rfl, rfl, rfl, rfl, rfl, rfl, trivial⟩, hH, by omega, by (rw [flatten_take (by omega), ← List.append_assoc]; exact hO_t31), rfl⟩
   ·skip
    obtain rfl : j = A.length := by omega
    rw [List.take_length] at hO_p
    refine wp_exit ?_
    refine then_exit ?_
    replace hH := HS.unfold [_] hNR11 hH
    refine then_exit ?_
    refine exit_here ?_
    refine block_normal ?_
    refine hK8 _ _ ?_
    clear hK8
    refine wp_region_lit ?_
    refine sq hA (q_addI (n := 1) rfl rfl (by omega)) rfl fun a hA => ?_
    refine mv hA fun a hA => ?_
    refine wpList_nil ?_
    exact ⟨_, by omega, 1, v_p, N_p, hA.sub ⟨rfl, rfl, rfl, rfl, rfl, trivial⟩, hH, by omega, by exact hO_p, rfl⟩
  ·skip
   refine sq hA (q_loadR Tryz.underlying69 rfl rfl (Own.rd0 hO_t17 hH 1 rfl) (by omega) rfl) rfl fun a hA => ?_
   refine asg hA fun a hA => ?_
   refine wpList_nil ?_
   refine hK9 _ _ ?_
   clear hK9
   refine wp_seq_k fun K16 hK16 => ?_
   refine wp_region_lit ?_
   refine mv hA fun a hA => ?_
   refine sq hA (q_len Tryz.underlying69 rfl (Rd.shp hxa)) rfl fun a hA => ?_
   refine mv hA fun a hA => ?_
   refine wpList_nil ?_
   refine hK16 _ _ ?_
   clear hK16
   refine wp_block ?_
   replace hH := HS.fold [_] [_, _] hH
   obtain ⟨NR17, hNR17, hH⟩ := hH
   refine wp_loop_ghost (fun gm a w => ∃ j : Nat, ∃ v_p : Value, ∃ N_p : Hl, At 35 [(25, I j), (24, I B.length), (23, xa), (5, xa), (22, xa), (19, I ((1 : Nat) : Int)), (18, (I 2)), (17, v_t17), (3, v_p), (2, (.slice none 0 0))] a ∧ HS [] w0 w ([N_p, NR17]) ∧ (j ≤ B.length) ∧ (Ow B8 5 v_p (encTo W A B 1 ++ (B.take j).flatten) N_p) ∧ gm = B.length - j) (B.length - (0)) ⟨0, v_o, N_o, hA.sub ⟨rfl, rfl, rfl, rfl, rfl, rfl, rfl, rfl, rfl, rfl, trivial⟩, hH, by omega, by simpa using hO_o, rfl⟩ ?_
   clear hA hH
   rintro gm a w ⟨j, v_p, N_p, hA, hH, hj, hO_p, rfl⟩
   have hl1 := encTo_len hWl hdA hdB 1
   have hl2 := take_flat_len hdB j
   refine wp_seq_k fun K18 hK18 => ?_
   refine wp_region_lit ?_
   refine sq hA (q_lssI rfl rfl) rfl fun a hA => ?_
   refine wpList_nil ?_
   refine hK18 _ _ ?_
   clear hK18
   refine wp_seq_k fun K19 hK19 => ?_
   refine cond_d hA rfl (fun hc26 => ?_) (fun hc26 => ?_)
   ·skip
    refine wp_skip ?_
    refine hK19 _ _ ?_
    clear hK19
    refine wp_seq_k fun K20 hK20 => ?_
    refine wp_block ?_
    refine wp_seq_k fun K21 hK21 => ?_
    refine wp_region_lit ?_
    refine sq hA (q_idxk (j) Tryz.underlying69 ti25 rfl rfl (by first | omega | rfl) (Rd.shp hxa) (by first | omega | (simp; done) | (simp; omega) | (rw [List.length_map]; assumption) | assumption | rfl | (simp [*]; done) | (simp [*]; omega))) rfl fun a hA => ?_
    have hrl := hdB.getD (i := j) (by omega)
    refine sq hA (q_loadRA (i := j) Tryz.underlying25 rfl ti25 rfl (hH.rd hxa) (by first | omega | (simp; done) | (simp; omega) | (rw [List.length_map]; assumption) | assumption | rfl | (simp [*]; done) | (simp [*]; omega)) _ (dc_at (by assumption) (by first | omega | (simp; done) | (simp; omega) | (rw [List.length_map]; assumption) | assumption | rfl | (simp [*]; done) | (simp [*]; omega)))) rfl fun a hA => ?_
    refine sl hA (lo_allocA hH ti25) rfl ?_
    clear hH; rintro _ w ⟨b_t7, rfl, hH⟩ a hA
    refine s0 hA (lo_storeAm hH ti25 rfl rfl (by first | omega | (simp; done) | (simp; omega) | (rw [List.length_map]; assumption) | assumption | rfl | (simp [*]; done) | (simp [*]; omega)) (by first | omega | (simp; done) | (simp; omega) | (rw [List.length_map]; assumption) | assumption | rfl | (simp [*]; done) | (simp [*]; omega)) (one_B8 _)) ?_
    clear hH; rintro _ w hH
    refine wpList_nil ?_
    refine hK21 _ _ ?_
    clear hK21
    refine wp_region_lit ?_
    refine mv hA fun a hA => ?_
    refine sq hA (q_sliceAll Tryz.underlying25 ti5 rfl) rfl fun a hA => ?_
    replace hH := hH.pick [1, 0, 2] (Hs' := [_, _, _]) rfl
    refine sl hA (lo_appm hH Tryz.underlying41 Tryz.underlying41 (.inl rfl) ti5 rfl rfl rfl hO_p (Rd.src (HS.byB hH 1 rfl hrl)) (one_B8 _) (by first | omega | (simp only [List.length_append]; omega)) (by first | omega | (simp only [List.length_append]; omega))) rfl ?_
    clear hH; rintro v_t31 w ⟨N_t31, hO_t31, hH⟩ a hA
    refine asg hA fun a hA => ?_
    refine wpList_nil ?_
    refine block_normal ?_
    refine hK20 _ _ ?_
    clear hK20
    refine wp_region_lit ?_
    refine sq hA (q_addI (n := 1) rfl rfl (by omega)) rfl fun a hA => ?_
    refine mv hA fun a hA => ?_
    refine wpList_nil ?_
    replace hH := hH.pick [0, 2, 1] (Hs' := [_, _, _]) rfl
    replace hH := hH.pick [0, 1] (Hs' := [_, _]) rfl
    exact ⟨_, by omega, j + 1, v_t31, N_t31, hA.sub ⟨rfl, rfl, rfl, rfl, rfl, rfl, rfl, rfl, rfl, rfl, trivial⟩, hH, by omega, by (rw [flatten_take (by omega), ← List.append_assoc]; exact hO_t31), rfl⟩
   ·skip
    obtain rfl : j = B.length := by omega
    rw [List.take_length] at hO_p
    refine wp_exit ?_
    refine then_exit ?_
    replace hH := HS.unfold [_] hNR17 hH
    refine then_exit ?_
    refine exit_here ?_
    refine block_normal ?_
    refine hK8 _ _ ?_
    clear hK8
    refine wp_region_lit ?_
    refine sq hA (q_addI (n := 1) rfl rfl (by omega)) rfl fun a hA => ?_
    refine mv hA fun a hA => ?_
    refine wpList_nil ?_
    exact ⟨_, by omega, 2, v_p, N_p, hA.sub ⟨rfl, rfl, rfl, rfl, rfl, trivial⟩, hH, by omega, by exact hO_p, rfl⟩
 ·skip
  obtain rfl : i = 2 := by omega
  refine wp_exit ?_
  refine then_exit ?_
  replace hH := HS.unfold [_, _] hNR5 hH
  refine then_exit ?_
  refine exit_here ?_
  refine hK3 _ _ ?_
  clear hK3
  replace hA := hA.s2 3 2
  refine wp_seq_k fun K22 hK22 => ?_
  refine wp_region_lit ?_
  refine mv hA fun a hA => ?_
  refine asg hA fun a hA => ?_
  refine wpList_nil ?_
  refine hK22 _ _ ?_
  clear hK22
  replace hA := hA.s1 2
  refine wp_ret ?_
  refine post_ret hA (res_1 rfl hA rfl) ?_
  replace hH := hH.pick [0] (Hs' := [_]) rfl
  exact ⟨_, rfl, v_o, N_o, rfl, by rw [hW] at hO_o; exact hO_o, hH⟩

theorem refenc7_any {w0 : World} (ix : Int) (ua xa : Value) (A B : List Bs) (hdA : Dg A) (hdB : Dg B) (hua : RdD [] w0 ua A) (hxa : RdD [] w0 xa B) (hlA : A.length ≤ 1048576) (hlB : B.length ≤ 1048576) (hi9 : ix ≤ 9223372036854775807) :
    Calls Tryz.prog 82 #[(.agg #[I ix, ua, xa])] w0 (Ret fun r w' => ∃ v' N, v' = r ∧ Ow B8 5 v' (encK ix A B) N ∧ HS [] w0 w' [N]) := by
 have hH := HS.start w0
 refine start (n := 42) (E := [(0, _)]) Tryz.func82 rfl rfl rfl (args_look rfl) ?_
 intro a hA
 obtain ⟨W, hW⟩ : ∃ W, W = wnum (max ix 0).toNat := ⟨_, rfl⟩
 have hWl : W.length ≤ 9 := by rw [hW, wnum_length]; have := wd_le (n := (max ix 0).toNat) (by omega); omega
 refine wp_seq_k fun K1 hK1 => ?_
 refine wp_region_lit ?_
 refine sl hA (lo_boxA hH rfl) rfl ?_
 clear hH; rintro _ w ⟨b_t1, rfl, hH⟩ a hA
 refine asg hA fun a hA => ?_
 refine wpList_nil ?_
 refine hK1 _ _ ?_
 clear hK1
 replace hA := hA.s2 2 1
 refine wp_seq_k fun K2 hK2 => ?_
 refine wp_region_lit ?_
 refine sq hA (q_fld 0 Tryz.underlying81 rfl rfl ti3 rfl) rfl fun a hA => ?_
 refine sq hA (q_loadB hH 0 rfl (List.mem_singleton.2 rfl) Tryz.underlying3 rfl rfl rfl) rfl fun a hA => ?_
 refine sq hA (q_maxI (n := 0) rfl rfl) rfl fun a hA => ?_
 rw [max0] at hA
 refine sq hA (q_cvI64 Tryz.underlying3 Tryz.underlying97 rfl) rfl fun a hA => ?_
 refine sl hA (lo_call fn80 rfl (refwnum_any _)) rfl ?_
 rintro _ w ⟨v_t10, N_t10, rfl, hO_t10, hC⟩ a hA
 replace hH := HS.call0 hH hC
 clear hC
 rw [max0_toNat hi9, ← hW] at hO_t10
 refine asg hA fun a hA => ?_
 refine wpList_nil ?_
 refine hK2 _ _ ?_
 clear hK2
 replace hA := hA.s3 3 2 1
 refine wp_seq_k fun K3 hK3 => ?_
 refine wp_seq_k fun K4 hK4 => ?_
 refine wp_region_lit ?_
 refine asg hA fun a hA => ?_
 refine wpList_nil ?_
 refine hK4 _ _ ?_
 clear hK4
 refine wp_block ?_
 refine wp_loop_ghost (fun gm a w => ∃ j : Nat, ∃ v_o : Value, ∃ N_o : Hl, At 42 [(4, I j), (3, v_o), (2, (.slice none 0 0)), (1, (.pointer (some ⟨b_t1, 0, none⟩)))] a ∧ HS [] w0 w ([N_o, [(b_t1, Obj.cells [I ix, ua, xa].toArray 81 (0, 0))]]) ∧ (j ≤ A.length) ∧ (Ow B8 5 v_o (encTo W A B 0 ++ (A.take j).flatten) N_o) ∧ gm = A.length - j) (A.length - (0)) ⟨0, v_t10, N_t10, hA.sub ⟨rfl, rfl, rfl, rfl, trivial⟩, hH, by omega, by simpa [encTo] using hO_t10, rfl⟩ ?_
 clear hA hH
 rintro gm a w ⟨j, v_o, N_o, hA, hH, hj, hO_o, rfl⟩
 have hl1 := encTo_len hWl hdA hdB 0
 have hl2 := take_flat_len hdA j
 refine wp_seq_k fun K5 hK5 => ?_
 refine wp_seq_k fun K6 hK6 => ?_
 refine wp_region_lit ?_
 refine mv hA fun a hA => ?_
 refine sq hA (q_fld 1 Tryz.underlying81 rfl rfl ti69 rfl) rfl fun a hA => ?_
 refine sq hA (q_loadB hH 1 rfl (List.mem_singleton.2 rfl) Tryz.underlying69 rfl rfl rfl) rfl fun a hA => ?_
 refine sq hA (q_len Tryz.underlying69 rfl (Rd.shp hua)) rfl fun a hA => ?_
 refine sq hA (q_lssI rfl rfl) rfl fun a hA => ?_
 refine wpList_nil ?_
 refine hK6 _ _ ?_
 clear hK6
 refine cond_d hA rfl (fun hc15 => ?_) (fun hc15 => ?_)
 ·skip
  refine wp_skip ?_
  refine hK5 _ _ ?_
  clear hK5
  refine wp_seq_k fun K7 hK7 => ?_
  refine wp_block ?_
  refine wp_region_lit ?_
  refine mv hA fun a hA => ?_
  refine sq hA (q_fld 1 Tryz.underlying81 rfl rfl ti69 rfl) rfl fun a hA => ?_
  refine sq hA (q_loadB hH 1 rfl (List.mem_singleton.2 rfl) Tryz.underlying69 rfl rfl rfl) rfl fun a hA => ?_
  refine mv hA fun a hA => ?_
  refine sq hA (q_idxk (j) Tryz.underlying69 ti25 rfl rfl (by first | omega | rfl) (Rd.shp hua) (by first | omega | (simp; done) | (simp; omega) | (rw [List.length_map]; assumption) | assumption | rfl | (simp [*]; done) | (simp [*]; omega))) rfl fun a hA => ?_
  have hrl := hdA.getD (i := j) (by omega)
  refine sq hA (q_loadRA (i := j) Tryz.underlying25 rfl ti25 rfl (hH.rd hua) (by first | omega | (simp; done) | (simp; omega) | (rw [List.length_map]; assumption) | assumption | rfl | (simp [*]; done) | (simp [*]; omega)) _ (dc_at (by assumption) (by first | omega | (simp; done) | (simp; omega) | (rw [List.length_map]; assumption) | assumption | rfl | (simp [*]; done) | (simp [*]; omega)))) rfl fun a hA => ?_
  refine sl hA (lo_call fn60 rfl (refdigest_any _ (by first | assumption | (rw [List.length_map]; assumption) | rfl | exact sha_length _ | (simp; done) | (simp [*]; done) | omega))) rfl ?_
  rintro _ w ⟨v_t24, N_t24, rfl, hO_t24, hC⟩ a hA
  replace hH := HS.call0 hH hC
  clear hC
  replace hH := hH.pick [1, 0, 2] (Hs' := [_, _, _]) rfl
  refine sl hA (lo_appm hH Tryz.underlying41 Tryz.underlying41 (.inl rfl) ti5 rfl rfl rfl hO_o (Rd.src (Own.rd0 hO_t24 hH 1 rfl)) (one_B8 _) (by first | omega | (simp only [List.length_append]; omega)) (by first | omega | (simp only [List.length_append]; omega))) rfl ?_
  clear hH; rintro v_t25 w ⟨N_t25, hO_t25, hH⟩ a hA
  refine asg hA fun a hA => ?_
  refine wpList_nil ?_
  refine block_normal ?_
  refine hK7 _ _ ?_
  clear hK7
  refine wp_region_lit ?_
  refine mv hA fun a hA => ?_
  refine sq hA (q_addI (n := 1) rfl rfl (by omega)) rfl fun a hA => ?_
  refine asg hA fun a hA => ?_
  refine wpList_nil ?_
  replace hH := hH.pick [0, 2, 1] (Hs' := [_, _, _]) rfl
  replace hH := hH.pick [0, 1] (Hs' := [_, _]) rfl
  exact ⟨_, by omega, j + 1, v_t25, N_t25, hA.sub ⟨rfl, rfl, rfl, rfl, trivial⟩, hH, by omega, by (rw [flatten_take (by omega), ← List.append_assoc]; exact hO_t25), rfl⟩
 ·skip
  obtain rfl : j = A.length := by omega
  rw [List.take_length] at hO_o
  replace hO_o : Ow B8 5 v_o (encTo W A B 1) N_o := hO_o
  refine wp_exit ?_
  refine then_exit ?_
  refine then_exit ?_
  refine exit_here ?_
  refine hK3 _ _ ?_
  clear hK3
  replace hA := hA.s3 3 2 1
  refine wp_seq_k fun K8 hK8 => ?_
  refine wp_seq_k fun K9 hK9 => ?_
  refine wp_region_lit ?_
  refine asg hA fun a hA => ?_
  refine wpList_nil ?_
  refine hK9 _ _ ?_
  clear hK9
  refine wp_block ?_
  refine wp_loop_ghost (fun gm a w => ∃ j : Nat, ∃ v_p : Value, ∃ N_p : Hl, At 42 [(5, I j), (3, v_p), (2, (.slice none 0 0)), (1, (.pointer (some ⟨b_t1, 0, none⟩)))] a ∧ HS [] w0 w ([N_p, [(b_t1, Obj.cells [I ix, ua, xa].toArray 81 (0, 0))]]) ∧ (j ≤ B.length) ∧ (Ow B8 5 v_p (encTo W A B 1 ++ (B.take j).flatten) N_p) ∧ gm = B.length - j) (B.length - (0)) ⟨0, v_o, N_o, hA.sub ⟨rfl, rfl, rfl, rfl, trivial⟩, hH, by omega, by simpa using hO_o, rfl⟩ ?_
  clear hA hH
  rintro gm a w ⟨j, v_p, N_p, hA, hH, hj, hO_p, rfl⟩
  have hl1 := encTo_len hWl hdA hdB 1
  have hl2 := take_flat_len hdB j
  refine wp_seq_k fun K10 hK10 => ?_
  refine wp_seq_k fun K11 hK11 => ?_
  refine wp_region_lit ?_
  refine mv hA fun a hA => ?_
  refine sq hA (q_fld 2 Tryz.underlying81 rfl rfl ti69 rfl) rfl fun a hA => ?_
  refine sq hA (q_loadB hH 1 rfl (List.mem_singleton.2 rfl) Tryz.underlying69 rfl rfl rfl) rfl fun a hA => ?_
  refine sq hA (q_len Tryz.underlying69 rfl (Rd.shp hxa)) rfl fun a hA => ?_
  refine sq hA (q_lssI rfl rfl) rfl fun a hA => ?_
  refine wpList_nil ?_
  refine hK11 _ _ ?_
  clear hK11
  refine cond_d hA rfl (fun hc30 => ?_) (fun hc30 => ?_)
  ·skip
   refine wp_skip ?_
   refine hK10 _ _ ?_
   clear hK10
   refine wp_seq_k fun K12 hK12 => ?_
   refine wp_block ?_
   refine wp_region_lit ?_
   refine mv hA fun a hA => ?_
   refine sq hA (q_fld 2 Tryz.underlying81 rfl rfl ti69 rfl) rfl fun a hA => ?_
   refine sq hA (q_loadB hH 1 rfl (List.mem_singleton.2 rfl) Tryz.underlying69 rfl rfl rfl) rfl fun a hA => ?_
   refine mv hA fun a hA => ?_
   refine sq hA (q_idxk (j) Tryz.underlying69 ti25 rfl rfl (by first | omega | rfl) (Rd.shp hxa) (by first | omega | (simp; done) | (simp; omega) | (rw [List.length_map]; assumption) | assumption | rfl | (simp [*]; done) | (simp [*]; omega))) rfl fun a hA => ?_
   have hrl := hdB.getD (i := j) (by omega)
   refine sq hA (q_loadRA (i := j) Tryz.underlying25 rfl ti25 rfl (hH.rd hxa) (by first | omega | (simp; done) | (simp; omega) | (rw [List.length_map]; assumption) | assumption | rfl | (simp [*]; done) | (simp [*]; omega)) _ (dc_at (by assumption) (by first | omega | (simp; done) | (simp; omega) | (rw [List.length_map]; assumption) | assumption | rfl | (simp [*]; done) | (simp [*]; omega)))) rfl fun a hA => ?_
   refine sl hA (lo_call fn60 rfl (refdigest_any _ (by first | assumption | (rw [List.length_map]; assumption) | rfl | exact sha_length _ | (simp; done) | (simp [*]; done) | omega))) rfl ?_
   rintro _ w ⟨v_t39, N_t39, rfl, hO_t39, hC⟩ a hA
   replace hH := HS.call0 hH hC
   clear hC
   replace hH := hH.pick [1, 0, 2] (Hs' := [_, _, _]) rfl
   refine sl hA (lo_appm hH Tryz.underlying41 Tryz.underlying41 (.inl rfl) ti5 rfl rfl rfl hO_p (Rd.src (Own.rd0 hO_t39 hH 1 rfl)) (one_B8 _) (by first | omega | (simp only [List.length_append]; omega)) (by first | omega | (simp only [List.length_append]; omega))) rfl ?_
   clear hH; rintro v_t40 w ⟨N_t40, hO_t40, hH⟩ a hA
   refine asg hA fun a hA => ?_
   refine wpList_nil ?_
   refine block_normal ?_
   refine hK12 _ _ ?_
   clear hK12
   refine wp_region_lit ?_
   refine mv hA fun a hA => ?_
   refine sq hA (q_addI (n := 1) rfl rfl (by omega)) rfl fun a hA => ?_
   refine asg hA fun a hA => ?_
   refine wpList_nil ?_
   replace hH := hH.pick [0, 2, 1] (Hs' := [_, _, _]) rfl
   replace hH := hH.pick [0, 1] (Hs' := [_, _]) rfl
   exact ⟨_, by omega, j + 1, v_t40, N_t40, hA.sub ⟨rfl, rfl, rfl, rfl, trivial⟩, hH, by omega, by (rw [flatten_take (by omega), ← List.append_assoc]; exact hO_t40), rfl⟩
  ·skip
   obtain rfl : j = B.length := by omega
   rw [List.take_length] at hO_p
   replace hO_p : Ow B8 5 v_p (encTo W A B 2) N_p := hO_p
   refine wp_exit ?_
   refine then_exit ?_
   refine then_exit ?_
   refine exit_here ?_
   refine hK8 _ _ ?_
   clear hK8
   replace hA := hA.s2 3 2
   refine wp_seq_k fun K13 hK13 => ?_
   refine wp_region_lit ?_
   refine mv hA fun a hA => ?_
   refine asg hA fun a hA => ?_
   refine wpList_nil ?_
   refine hK13 _ _ ?_
   clear hK13
   replace hA := hA.s1 2
   refine wp_ret ?_
   refine post_ret hA (res_1 rfl hA rfl) ?_
   replace hH := hH.pick [0] (Hs' := [_]) rfl
   exact ⟨_, rfl, v_p, N_p, rfl, by rw [hW] at hO_p; exact hO_p, hH⟩

end Go.Proofs.YtnnkgdijaekcfaaGreatDoor
