/- Layer 20 (result): what is signed. -/
import Derived.Test.YtnnkgdijaekcfaaGreatDoorEa
import Derived.Test.YtnnkgdijaekcfaaGreatDoorMzc
import Derived.Test.YtnnkgdijaekcfaaGreatDoorDa
namespace Go.Proofs.YtnnkgdijaekcfaaGreatDoor
open Go
set_option linter.unusedVariables false
set_option linter.unusedSimpArgs false
set_option maxRecDepth 100000

theorem num20_any {w0 : World} (n : Int) (hn9 : n ≤ 9223372036854775807) :
    Calls Tryz.prog 70 #[I n] w0 (Ret fun r w' => ∃ v' N, v' = r ∧ Ow B8 5 v' (wnum (max n 0).toNat) N ∧ HS [] w0 w' [N]) := by
 have hH := HS.start w0
 refine start (n := 7) (E := [(0, _)]) Tryz.func70 rfl rfl rfl (args_look rfl) ?_
 intro a hA
 refine wp_seq_k fun K1 hK1 => ?_
 refine wp_region_lit ?_
 refine asg hA fun a hA => ?_
 refine wpList_nil ?_
 refine hK1 _ _ ?_
 clear hK1
 refine wp_seq_k fun K2 hK2 => ?_
 refine wp_region_lit ?_
 refine mv hA fun a hA => ?_
 refine sq hA (q_maxI (n := 0) rfl rfl) rfl fun a hA => ?_
 rw [max0] at hA
 refine sq hA (q_cvI64 Tryz.underlying3 Tryz.underlying97 rfl) rfl fun a hA => ?_
 refine sl hA (lo_call fn40 rfl (wnum_any _)) rfl ?_
 rintro _ w ⟨v_t6, N_t6, rfl, hO_t6, hC⟩ a hA
 replace hH := HS.call0 hH hC
 clear hC
 rw [max0_toNat hn9] at hO_t6
 refine asg hA fun a hA => ?_
 refine wpList_nil ?_
 refine hK2 _ _ ?_
 clear hK2
 replace hA := hA.s1 2
 refine wp_ret ?_
 refine post_ret hA (res_1 rfl hA rfl) ?_
 exact ⟨_, rfl, v_t6, N_t6, rfl, hO_t6, hH⟩

theorem text20_any {w0 : World} (jb at_ : Int) (hj9 : jb ≤ 9223372036854775807) (ha9 : at_ ≤ 9223372036854775807) (v : Value) (l : Bs) (hr : By [] w0 v l) (hl : l.length ≤ 1048576) (s : Bs) (hs : s.length = 32) :
    Calls Tryz.prog 32 #[I jb, I at_, v, (.agg ((s).map B8).toArray)] w0 (Ret fun r w' => ∃ v' N, v' = r ∧ Ow B8 5 v' (txV (max jb 0).toNat (max at_ 0).toNat l s) N ∧ HS [] w0 w' [N]) := by
 have hH := HS.start w0
 refine start (n := 32) (E := [(0, _), (1, _), (2, _), (3, _)]) Tryz.func32 rfl rfl rfl (args_look rfl) ?_
 intro a hA
 obtain ⟨y0, hy0⟩ : ∃ x, x = wnum (max jb 0).toNat := ⟨_, rfl⟩
 obtain ⟨y1, hy1⟩ : ∃ x, x = wnum (max at_ 0).toNat := ⟨_, rfl⟩
 obtain ⟨y2, hy2⟩ : ∃ x, x = wtext l := ⟨_, rfl⟩
 have hl0 : y0.length ≤ 9 := by rw [hy0, wnum_length]; have := wd_le (n := (max jb 0).toNat) (by omega); omega
 have hl1 : y1.length ≤ 9 := by rw [hy1, wnum_length]; have := wd_le (n := (max at_ 0).toNat) (by omega); omega
 have hl2 : y2.length ≤ 9 + l.length := by rw [hy2, wtext_length]; have := wd_le (n := l.length) (by omega); omega
 refine wp_seq_k fun K1 hK1 => ?_
 refine wp_region_lit ?_
 refine sl hA (lo_boxA hH rfl) rfl ?_
 clear hH; rintro _ w ⟨b_t7, rfl, hH⟩ a hA
 refine asg hA fun a hA => ?_
 refine wpList_nil ?_
 refine hK1 _ _ ?_
 clear hK1
 replace hA := hA.s5 8 7 0 1 2
 refine wp_seq_k fun K2 hK2 => ?_
 refine wp_region_lit ?_
 refine sl hA (lo_bsR (e := 5) ([114#8, 101#8, 115#8, 117#8, 108#8, 116#8]) hH rfl rfl (fun w => by kernel_rfl)) rfl ?_
 clear hH; rintro _ w ⟨b_t12, rfl, hH⟩ a hA
 refine sl hA (lo_cvBytes hH Tryz.underlying41 Tryz.underlying5 rfl rfl) rfl ?_
 clear hH; rintro v_t13 w ⟨N_t13, hO_t13, hH⟩ a hA
 refine asg hA fun a hA => ?_
 refine wpList_nil ?_
 refine hK2 _ _ ?_
 clear hK2
 replace hA := hA.s6 9 8 7 0 1 2
 refine wp_seq_k fun K3 hK3 => ?_
 refine wp_seq_k fun K4 hK4 => ?_
 refine any_go mixed (fun j => !(Nat.beq j 1 || Nat.beq j 3 || Nat.beq j 5 || Nat.beq j 7)) hH ?_
 clear hH; intro w hH
 have hS := hH
 refine any_l 10 ?_
 refine p0 hA 0 1 rfl (fun w => (q_move rfl)) fun a hA => ?_
 refine p0 hA 2 5 rfl (fun w => (q_move rfl)) fun a hA => ?_
 refine p0 hA 4 21 rfl (fun w => (q_move rfl)) fun a hA => ?_
 refine p0 hA 6 85 rfl (fun w => (q_sliceAll Tryz.underlying25 ti5 rfl)) fun a hA => ?_
 refine p0 hA 9 597 rfl (fun w => (q_move rfl)) fun a hA => ?_
 refine a1n hA 1 599 rfl (lo_call fn70 rfl (num20_any _ (by assumption))) ?_
 rintro _ w ⟨v_t15, N_t15, rfl, hO_t15, hC⟩
 replace hH := HS.call0 hH hC
 clear hC
 intro a hA
 rw [← hy0] at hO_t15
 refine a1n hA 3 607 rfl (lo_call fn70 rfl (num20_any _ (by assumption))) ?_
 rintro _ w ⟨v_t17, N_t17, rfl, hO_t17, hC⟩
 replace hH := HS.call0 hH hC
 clear hC
 intro a hA
 rw [← hy1] at hO_t17
 refine a1n hA 5 639 rfl (lo_call fn41 rfl (wtext_any _ _ (hH.rd hr) (by first | omega | (simp; done) | (simp; omega)))) ?_
 rintro _ w ⟨v_t19, N_t19, rfl, hO_t19, hC⟩
 replace hH := HS.call0 hH hC
 clear hC
 intro a hA
 rw [← hy2] at hO_t19
 refine a1n hA 7 767 rfl (lo_buildV (vs := [v_t15, v_t17, v_t19, (.slice (some ⟨b_t7, 0, none⟩) 32 32)]) hH Tryz.underlying129 ti41 rfl rfl rfl (by decide) (by decide) (ones_cons (Own.one hO_t15) (ones_cons (Own.one hO_t17) (ones_cons (Own.one hO_t19) (ones_cons rfl ones_nil))))) ?_
 clear hH; rintro v_t21 w ⟨N_t21, hO_t21, hH⟩
 intro a hA
 refine p0 hA 8 1023 rfl (fun w => (q_len Tryz.underlying129 rfl (Own.shp hO_t21))) fun a hA => ?_
 refine a_end (by kernel_rfl) ?_ _
 refine hK4 _ _ ?_
 clear hK4
 replace hA := hA.s5 22 21 23 9 8
 refine wp_block ?_
 replace hH := hH.pick [4, 0, 3, 2, 1, 5] (Hs' := [_, _, _, _, _, _]) rfl
 refine wp_loop_ghost (fun gm a w => ∃ i : Nat, ∃ v_o : Value, ∃ N_o : Hl, At 32 [(22, I 4), (21, v_t21), (23, I i), (9, v_o), (8, (.slice none 0 0))] a ∧ HS [] w0 w ([N_o, N_t21, N_t15, N_t17, N_t19, [(b_t7, Obj.cells ((s).map B8).toArray 25 (0, 0))]]) ∧ (i ≤ 4) ∧ (Ow B8 5 v_o (txTo y0 y1 y2 s i) N_o) ∧ gm = 4 - i) (4 - (0)) ⟨0, v_t13, N_t13, hA.sub ⟨rfl, rfl, rfl, rfl, rfl, trivial⟩, hH, by omega, by exact hO_t13, rfl⟩ ?_
 clear hA hH
 rintro gm a w ⟨i, v_o, N_o, hA, hH, hi, hO_o, rfl⟩
 have hpl := txTo_len y0 y1 y2 s i
 refine wp_seq_k fun K5 hK5 => ?_
 refine wp_region_lit ?_
 refine sq hA (q_lssI rfl rfl) rfl fun a hA => ?_
 refine wpList_nil ?_
 refine hK5 _ _ ?_
 clear hK5
 refine wp_seq_k fun K6 hK6 => ?_
 refine cond_d hA rfl (fun hc24 => ?_) (fun hc24 => ?_)
 ·skip
  refine wp_skip ?_
  refine hK6 _ _ ?_
  clear hK6
  refine wp_seq_k fun K7 hK7 => ?_
  refine wp_block ?_
  refine wp_seq_k fun K8 hK8 => ?_
  refine wp_region_lit ?_
  refine sq hA (q_idx1 (i) Tryz.underlying129 ti41 rfl rfl (by first | omega | rfl) (Own.shp hO_t21) (by first | omega | (simp; done) | (simp; omega) | (rw [List.length_map]; assumption) | assumption | rfl | (simp [*]; done) | (simp [*]; omega))) rfl fun a hA => ?_
  rcases (show i = 0 ∨ i = 1 ∨ i = 2 ∨ i = 3 by omega) with rfl | rfl | rfl | rfl
  ·skip
   refine sq hA (q_loadR Tryz.underlying41 rfl rfl (Own.rd0 hO_t21 hH 1 rfl) (by omega) rfl) rfl fun a hA => ?_
   refine asg hA fun a hA => ?_
   refine wpList_nil ?_
   refine hK8 _ _ ?_
   clear hK8
   refine wp_region_lit ?_
   refine mv hA fun a hA => ?_
   refine mv hA fun a hA => ?_
   refine sl hA (lo_appm hH Tryz.underlying41 Tryz.underlying41 (.inl rfl) ti5 rfl rfl rfl hO_o (Rd.src (Own.rd0 hO_t15 hH 2 rfl)) (one_B8 _) (by have hq := txTo_len y0 y1 y2 s; first | omega | (simp only [List.length_append, List.length_cons, List.length_nil]; omega) | (simp; omega)) (by have hq := txTo_len y0 y1 y2 s; first | omega | (simp only [List.length_append, List.length_cons, List.length_nil]; omega) | (simp; omega))) rfl ?_
   clear hH; rintro v_t29 w ⟨N_t29, hO_t29, hH⟩ a hA
   refine asg hA fun a hA => ?_
   refine wpList_nil ?_
   refine block_normal ?_
   refine hK7 _ _ ?_
   clear hK7
   refine wp_region_lit ?_
   refine sq hA (q_addI (n := 1) rfl rfl (by omega)) rfl fun a hA => ?_
   refine mv hA fun a hA => ?_
   refine wpList_nil ?_
   exact ⟨_, by omega, 1, v_t29, N_t29, hA.sub ⟨rfl, rfl, rfl, rfl, rfl, trivial⟩, hH, by omega, by exact hO_t29, rfl⟩
  ·skip
   refine sq hA (q_loadR Tryz.underlying41 rfl rfl (Own.rd0 hO_t21 hH 1 rfl) (by omega) rfl) rfl fun a hA => ?_
   refine asg hA fun a hA => ?_
   refine wpList_nil ?_
   refine hK8 _ _ ?_
   clear hK8
   refine wp_region_lit ?_
   refine mv hA fun a hA => ?_
   refine mv hA fun a hA => ?_
   refine sl hA (lo_appm hH Tryz.underlying41 Tryz.underlying41 (.inl rfl) ti5 rfl rfl rfl hO_o (Rd.src (Own.rd0 hO_t17 hH 3 rfl)) (one_B8 _) (by have hq := txTo_len y0 y1 y2 s; first | omega | (simp only [List.length_append, List.length_cons, List.length_nil]; omega) | (simp; omega)) (by have hq := txTo_len y0 y1 y2 s; first | omega | (simp only [List.length_append, List.length_cons, List.length_nil]; omega) | (simp; omega))) rfl ?_
   clear hH; rintro v_t29 w ⟨N_t29, hO_t29, hH⟩ a hA
   refine asg hA fun a hA => ?_
   refine wpList_nil ?_
   refine block_normal ?_
   refine hK7 _ _ ?_
   clear hK7
   refine wp_region_lit ?_
   refine sq hA (q_addI (n := 1) rfl rfl (by omega)) rfl fun a hA => ?_
   refine mv hA fun a hA => ?_
   refine wpList_nil ?_
   exact ⟨_, by omega, 2, v_t29, N_t29, hA.sub ⟨rfl, rfl, rfl, rfl, rfl, trivial⟩, hH, by omega, by exact hO_t29, rfl⟩
  ·skip
   refine sq hA (q_loadR Tryz.underlying41 rfl rfl (Own.rd0 hO_t21 hH 1 rfl) (by omega) rfl) rfl fun a hA => ?_
   refine asg hA fun a hA => ?_
   refine wpList_nil ?_
   refine hK8 _ _ ?_
   clear hK8
   refine wp_region_lit ?_
   refine mv hA fun a hA => ?_
   refine mv hA fun a hA => ?_
   refine sl hA (lo_appm hH Tryz.underlying41 Tryz.underlying41 (.inl rfl) ti5 rfl rfl rfl hO_o (Rd.src (Own.rd0 hO_t19 hH 4 rfl)) (one_B8 _) (by have hq := txTo_len y0 y1 y2 s; first | omega | (simp only [List.length_append, List.length_cons, List.length_nil]; omega) | (simp; omega)) (by have hq := txTo_len y0 y1 y2 s; first | omega | (simp only [List.length_append, List.length_cons, List.length_nil]; omega) | (simp; omega))) rfl ?_
   clear hH; rintro v_t29 w ⟨N_t29, hO_t29, hH⟩ a hA
   refine asg hA fun a hA => ?_
   refine wpList_nil ?_
   refine block_normal ?_
   refine hK7 _ _ ?_
   clear hK7
   refine wp_region_lit ?_
   refine sq hA (q_addI (n := 1) rfl rfl (by omega)) rfl fun a hA => ?_
   refine mv hA fun a hA => ?_
   refine wpList_nil ?_
   exact ⟨_, by omega, 3, v_t29, N_t29, hA.sub ⟨rfl, rfl, rfl, rfl, rfl, trivial⟩, hH, by omega, by exact hO_t29, rfl⟩
  ·skip
   refine sq hA (q_loadR Tryz.underlying41 rfl rfl (Own.rd0 hO_t21 hH 1 rfl) (by omega) rfl) rfl fun a hA => ?_
   refine asg hA fun a hA => ?_
   refine wpList_nil ?_
   refine hK8 _ _ ?_
   clear hK8
   refine wp_region_lit ?_
   refine mv hA fun a hA => ?_
   refine mv hA fun a hA => ?_
   refine sl hA (lo_appm hH Tryz.underlying41 Tryz.underlying41 (.inl rfl) ti5 rfl rfl rfl hO_o (Rd.src (HS.byB hH 5 rfl hs)) (one_B8 _) (by have hq := txTo_len y0 y1 y2 s; first | omega | (simp only [List.length_append, List.length_cons, List.length_nil]; omega) | (simp; omega)) (by have hq := txTo_len y0 y1 y2 s; first | omega | (simp only [List.length_append, List.length_cons, List.length_nil]; omega) | (simp; omega))) rfl ?_
   clear hH; rintro v_t29 w ⟨N_t29, hO_t29, hH⟩ a hA
   refine asg hA fun a hA => ?_
   refine wpList_nil ?_
   refine block_normal ?_
   refine hK7 _ _ ?_
   clear hK7
   refine wp_region_lit ?_
   refine sq hA (q_addI (n := 1) rfl rfl (by omega)) rfl fun a hA => ?_
   refine mv hA fun a hA => ?_
   refine wpList_nil ?_
   exact ⟨_, by omega, 4, v_t29, N_t29, hA.sub ⟨rfl, rfl, rfl, rfl, rfl, trivial⟩, hH, by omega, by exact hO_t29, rfl⟩
 ·skip
  obtain rfl : i = 4 := by omega
  refine wp_exit ?_
  refine then_exit ?_
  refine then_exit ?_
  refine exit_here ?_
  refine hK3 _ _ ?_
  clear hK3
  replace hA := hA.s2 9 8
  refine wp_seq_k fun K9 hK9 => ?_
  refine wp_region_lit ?_
  refine mv hA fun a hA => ?_
  refine asg hA fun a hA => ?_
  refine wpList_nil ?_
  refine hK9 _ _ ?_
  clear hK9
  replace hA := hA.s1 8
  refine wp_ret ?_
  refine post_ret hA (res_1 rfl hA rfl) ?_
  replace hH := hH.pick [0] (Hs' := [_]) rfl
  exact ⟨_, rfl, v_o, N_o, rfl, by rw [hy0, hy1, hy2] at hO_o; exact hO_o, hH⟩

theorem reftext20_any {w0 : World} (jb at_ : Int) (hj9 : jb ≤ 9223372036854775807) (ha9 : at_ ≤ 9223372036854775807) (v : Value) (l : Bs) (hr : By [] w0 v l) (hl : l.length ≤ 1048576) (s : Bs) (hs : s.length = 32) :
    Calls Tryz.prog 38 #[I jb, I at_, v, (.agg ((s).map B8).toArray)] w0 (Ret fun r w' => ∃ v' N, v' = r ∧ Ow B8 5 v' (txV (max jb 0).toNat (max at_ 0).toNat l s) N ∧ HS [] w0 w' [N]) := by
 have hH := HS.start w0
 refine start (n := 32) (E := [(0, _), (1, _), (2, _), (3, _)]) Tryz.func38 rfl rfl rfl (args_look rfl) ?_
 intro a hA
 obtain ⟨y0, hy0⟩ : ∃ x, x = wnum (max jb 0).toNat := ⟨_, rfl⟩
 obtain ⟨y1, hy1⟩ : ∃ x, x = wnum (max at_ 0).toNat := ⟨_, rfl⟩
 obtain ⟨y2, hy2⟩ : ∃ x, x = wtext l := ⟨_, rfl⟩
 have hl0 : y0.length ≤ 9 := by rw [hy0, wnum_length]; have := wd_le (n := (max jb 0).toNat) (by omega); omega
 have hl1 : y1.length ≤ 9 := by rw [hy1, wnum_length]; have := wd_le (n := (max at_ 0).toNat) (by omega); omega
 have hl2 : y2.length ≤ 9 + l.length := by rw [hy2, wtext_length]; have := wd_le (n := l.length) (by omega); omega
 refine wp_seq_k fun K1 hK1 => ?_
 refine wp_region_lit ?_
 refine sl hA (lo_boxA hH rfl) rfl ?_
 clear hH; rintro _ w ⟨b_t7, rfl, hH⟩ a hA
 refine asg hA fun a hA => ?_
 refine wpList_nil ?_
 refine hK1 _ _ ?_
 clear hK1
 replace hA := hA.s5 8 7 0 1 2
 refine wp_seq_k fun K2 hK2 => ?_
 refine wp_region_lit ?_
 refine sl hA (lo_bsR (e := 5) ([114#8, 101#8, 115#8, 117#8, 108#8, 116#8]) hH rfl rfl (fun w => by kernel_rfl)) rfl ?_
 clear hH; rintro _ w ⟨b_t10, rfl, hH⟩ a hA
 refine sl hA (lo_cvBytes hH Tryz.underlying41 Tryz.underlying5 rfl rfl) rfl ?_
 clear hH; rintro v_t11 w ⟨N_t11, hO_t11, hH⟩ a hA
 refine asg hA fun a hA => ?_
 refine wpList_nil ?_
 refine hK2 _ _ ?_
 clear hK2
 replace hA := hA.s6 9 8 7 0 1 2
 refine wp_seq_k fun K3 hK3 => ?_
 refine wp_region_lit ?_
 refine mv hA fun a hA => ?_
 refine mv hA fun a hA => ?_
 refine sq hA (q_maxI (n := 0) rfl rfl) rfl fun a hA => ?_
 rw [max0] at hA
 refine sq hA (q_cvI64 Tryz.underlying3 Tryz.underlying97 rfl) rfl fun a hA => ?_
 refine sl hA (lo_call fn80 rfl (refwnum_any _)) rfl ?_
 rintro _ w ⟨v_t16, N_t16, rfl, hO_t16, hC⟩ a hA
 replace hH := HS.call0 hH hC
 clear hC
 rw [max0_toNat hj9, ← hy0] at hO_t16
 replace hH := hH.pick [1, 0, 2] (Hs' := [_, _, _]) rfl
 refine sl hA (lo_appm hH Tryz.underlying41 Tryz.underlying41 (.inl rfl) ti5 rfl rfl rfl hO_t11 (Rd.src (Own.rd0 hO_t16 hH 1 rfl)) (one_B8 _) (by first | omega | (simp only [List.length_append, List.length_cons, List.length_nil]; omega)) (by first | omega | (simp only [List.length_append, List.length_cons, List.length_nil]; omega))) rfl ?_
 clear hH; rintro v_t17 w ⟨N_t17, hO_t17, hH⟩ a hA
 refine asg hA fun a hA => ?_
 refine wpList_nil ?_
 refine hK3 _ _ ?_
 clear hK3
 replace hA := hA.s5 9 8 7 1 2
 refine wp_seq_k fun K4 hK4 => ?_
 refine wp_region_lit ?_
 refine mv hA fun a hA => ?_
 refine mv hA fun a hA => ?_
 refine sq hA (q_maxI (n := 0) rfl rfl) rfl fun a hA => ?_
 rw [max0] at hA
 refine sq hA (q_cvI64 Tryz.underlying3 Tryz.underlying97 rfl) rfl fun a hA => ?_
 refine sl hA (lo_call fn80 rfl (refwnum_any _)) rfl ?_
 rintro _ w ⟨v_t22, N_t22, rfl, hO_t22, hC⟩ a hA
 replace hH := HS.call0 hH hC
 clear hC
 rw [max0_toNat ha9, ← hy1] at hO_t22
 replace hH := hH.pick [1, 0, 2, 3] (Hs' := [_, _, _, _]) rfl
 refine sl hA (lo_appm hH Tryz.underlying41 Tryz.underlying41 (.inl rfl) ti5 rfl rfl rfl hO_t17 (Rd.src (Own.rd0 hO_t22 hH 1 rfl)) (one_B8 _) (by first | omega | (simp only [List.length_append, List.length_cons, List.length_nil]; omega)) (by first | omega | (simp only [List.length_append, List.length_cons, List.length_nil]; omega))) rfl ?_
 clear hH; rintro v_t23 w ⟨N_t23, hO_t23, hH⟩ a hA
 refine asg hA fun a hA => ?_
 refine wpList_nil ?_
 refine hK4 _ _ ?_
 clear hK4
 replace hA := hA.s4 9 8 7 2
 refine wp_seq_k fun K5 hK5 => ?_
 refine wp_region_lit ?_
 refine mv hA fun a hA => ?_
 refine mv hA fun a hA => ?_
 refine sl hA (lo_call fn81 rfl (refwtext_any _ _ (hH.rd hr) (by first | omega | (simp; done) | (simp; omega)))) rfl ?_
 rintro _ w ⟨v_t26, N_t26, rfl, hO_t26, hC⟩ a hA
 replace hH := HS.call0 hH hC
 clear hC
 rw [← hy2] at hO_t26
 replace hH := hH.pick [1, 0, 2, 3, 4] (Hs' := [_, _, _, _, _]) rfl
 refine sl hA (lo_appm hH Tryz.underlying41 Tryz.underlying41 (.inl rfl) ti5 rfl rfl rfl hO_t23 (Rd.src (Own.rd0 hO_t26 hH 1 rfl)) (one_B8 _) (by first | omega | (simp only [List.length_append, List.length_cons, List.length_nil]; omega)) (by first | omega | (simp only [List.length_append, List.length_cons, List.length_nil]; omega))) rfl ?_
 clear hH; rintro v_t27 w ⟨N_t27, hO_t27, hH⟩ a hA
 refine asg hA fun a hA => ?_
 refine wpList_nil ?_
 refine hK5 _ _ ?_
 clear hK5
 replace hA := hA.s3 9 8 7
 refine wp_seq_k fun K6 hK6 => ?_
 refine wp_region_lit ?_
 refine mv hA fun a hA => ?_
 refine sq hA (q_loadW hH 4 rfl Tryz.underlying25 rfl ti25 rfl (by first | omega | (simp; done) | (simp; omega) | (rw [List.length_map]; assumption) | assumption | rfl | (simp [*]; done) | (simp [*]; omega))) rfl fun a hA => ?_
 refine sl hA (lo_call fn60 rfl (refdigest_any _ (by first | assumption | (rw [List.length_map]; assumption) | rfl | exact sha_length _ | (simp; done) | (simp [*]; done) | omega))) rfl ?_
 rintro _ w ⟨v_t30, N_t30, rfl, hO_t30, hC⟩ a hA
 replace hH := HS.call0 hH hC
 clear hC
 replace hH := hH.pick [1, 0, 2, 3, 4, 5] (Hs' := [_, _, _, _, _, _]) rfl
 refine sl hA (lo_appm hH Tryz.underlying41 Tryz.underlying41 (.inl rfl) ti5 rfl rfl rfl hO_t27 (Rd.src (Own.rd0 hO_t30 hH 1 rfl)) (one_B8 _) (by first | omega | (simp only [List.length_append, List.length_cons, List.length_nil]; omega)) (by first | omega | (simp only [List.length_append, List.length_cons, List.length_nil]; omega))) rfl ?_
 clear hH; rintro v_t31 w ⟨N_t31, hO_t31, hH⟩ a hA
 refine asg hA fun a hA => ?_
 refine wpList_nil ?_
 refine hK6 _ _ ?_
 clear hK6
 replace hA := hA.s1 8
 refine wp_ret ?_
 refine post_ret hA (res_1 rfl hA rfl) ?_
 replace hH := hH.pick [0] (Hs' := [_]) rfl
 exact ⟨_, rfl, v_t31, N_t31, rfl, by rw [hy0, hy1, hy2] at hO_t31; exact hO_t31, hH⟩

end Go.Proofs.YtnnkgdijaekcfaaGreatDoor
