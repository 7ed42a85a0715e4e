/- Layer 20 (result): its bytes; checking. -/
import Derived.Test.YtnnkgdijaekcfaaGreatDoorIa
import Derived.Test.YtnnkgdijaekcfaaGreatDoorHm
import Derived.Test.YtnnkgdijaekcfaaGreatDoorHc
import Derived.Test.YtnnkgdijaekcfaaGreatDoorMzc
namespace Go.Proofs.YtnnkgdijaekcfaaGreatDoor
open Go
set_option linter.unusedVariables false
set_option linter.unusedSimpArgs false
set_option maxRecDepth 100000

theorem enc20_any {w0 : World} (tv vv : Value) (T V : Bs) (htv : By [] w0 tv T) (hvv : By [] w0 vv V) (hlT : T.length ≤ 1048576) (hlV : V.length ≤ 1048576) (ix : Int) (ua xa : Value) (A B : List Bs) (hdA : Dg A) (hdB : Dg B) (hua : RdD [] w0 ua A) (hxa : RdD [] w0 xa B) (hlA : A.length ≤ 1048576) (hlB : B.length ≤ 1048576) (hi9 : ix ≤ 9223372036854775807) (hA4 : A.length ≤ 4096) (hB4 : B.length ≤ 4096) :
    Calls Tryz.prog 33 #[(.agg #[tv, vv, I ix, ua, xa])] w0 (Ret fun r w' => ∃ v' N, v' = r ∧ Ow B8 5 v' (encR T V (encK ix A B)) N ∧ HS [] w0 w' [N]) := by
 have hH := HS.start w0
 refine start (n := 23) (E := [(0, _)]) Tryz.func33 rfl rfl rfl (args_look rfl) ?_
 intro a hA
 obtain ⟨kb, hkb⟩ : ∃ x, x = encK ix A B := ⟨_, rfl⟩
 have hkl : kb.length ≤ 9 + 32 * A.length + 32 * B.length := by rw [hkb]; exact encK_len hi9 hdA hdB
 have hkl2 : kb.length ≤ 1048576 := by omega
 have hw0 := wtext_len9 hlT
 have hw1 := wtext_len9 hlV
 have hw2 := wtext_len9 hkl2
 refine wp_seq_k fun K1 hK1 => ?_
 refine wp_region_lit ?_
 refine sl hA (lo_boxA hH rfl) rfl ?_
 clear hH; rintro _ w ⟨b_t1, rfl, hH⟩ a hA
 refine asg hA fun a hA => ?_
 refine wpList_nil ?_
 refine hK1 _ _ ?_
 clear hK1
 replace hA := hA.s2 2 1
 refine wp_seq_k fun K2 hK2 => ?_
 refine wp_region_lit ?_
 refine asg hA fun a hA => ?_
 refine wpList_nil ?_
 refine hK2 _ _ ?_
 clear hK2
 refine wp_seq_k fun K3 hK3 => ?_
 refine wp_seq_k fun K4 hK4 => ?_
 refine any_go mixed (fun _ => true) hH ?_
 clear hH; intro w hH
 have hS := hH
 refine any_l 9 ?_
 refine p0 hA 0 1 rfl (fun w => (q_fld 0 Tryz.underlying87 rfl rfl ti41 rfl)) fun a hA => ?_
 refine r0 hA 1 3 rfl hS (fun w hH => (q_loadB hH 0 rfl (List.mem_singleton.2 rfl) Tryz.underlying41 rfl rfl rfl)) fun a hA => ?_
 refine p0 hA 2 7 rfl (fun w => (q_fld 1 Tryz.underlying87 rfl rfl ti41 rfl)) fun a hA => ?_
 refine r0 hA 3 15 rfl hS (fun w hH => (q_loadB hH 0 rfl (List.mem_singleton.2 rfl) Tryz.underlying41 rfl rfl rfl)) fun a hA => ?_
 refine p0 hA 4 31 rfl (fun w => (q_fld 2 Tryz.underlying87 rfl rfl ti81 rfl)) fun a hA => ?_
 refine r0 hA 5 63 rfl hS (fun w hH => (q_loadBA hH 0 rfl (List.mem_singleton.2 rfl) Tryz.underlying81 rfl ti81 rfl [_, _, _] rfl rfl)) fun a hA => ?_
 refine p0 hA 8 319 rfl (fun w => (q_move rfl)) fun a hA => ?_
 refine a1 hA 6 383 rfl (lo_call fn71 rfl (enc7_any _ _ _ _ _ (by first | assumption | exact Dg.nil) (by first | assumption | exact Dg.nil) (hH.rd hua) (hH.rd hxa) (by first | omega | (simp; done) | (simp; omega)) (by first | omega | (simp; done) | (simp; omega)) (by omega))) ?_
 rintro _ w ⟨v_t12, N_t12, rfl, hO_t12, hC⟩
 replace hH := HS.call0 hH hC
 clear hC
 replace hS := hH.pick [1] (Hs' := [_]) rfl
 refine ⟨fun _ _ => hS, ?_⟩
 intro a hA
 rw [← hkb] at hO_t12
 refine p0 hA 7 511 rfl (fun w => (q_buildV (vs := [tv, vv, v_t12]) (zs := [(.slice none 0 0), (.slice none 0 0), (.slice none 0 0)]) (it := Tryz.t131) (ie := Tryz.t41) (by kernel_rfl) Tryz.underlying131 (by kernel_rfl) (by kernel_rfl) rfl rfl rfl (ones_cons (Rd.one htv) (ones_cons (Rd.one hvv) (ones_cons (Own.one hO_t12) ones_nil))))) fun a hA => ?_
 refine a_end (by kernel_rfl) ?_ _
 refine hK4 _ _ ?_
 clear hK4
 replace hA := hA.s4 13 14 3 2
 refine wp_block ?_
 replace hH := hH.nilFront
 replace hH := HS.fold [_, _] [_] hH
 obtain ⟨NR5, hNR5, hH⟩ := hH
 refine wp_loop_ghost (fun gm a w => ∃ i : Nat, ∃ v_o : Value, ∃ N_o : Hl, At 23 [(13, (.agg #[tv, vv, v_t12])), (14, I i), (3, v_o), (2, (.slice none 0 0))] a ∧ HS [] w0 w ([N_o, N_t12, NR5]) ∧ (i ≤ 3) ∧ (Ow B8 5 v_o (encRTo T V kb i) N_o) ∧ gm = 3 - i) (3 - (0)) ⟨0, nilV, [], hA.sub ⟨rfl, rfl, rfl, rfl, trivial⟩, hH, by omega, by exact Ow.nil B8 _, rfl⟩ ?_
 clear hA hH
 rintro gm a w ⟨i, v_o, N_o, hA, hH, hi, hO_o, rfl⟩
 have hpl := encRTo_len T V kb hlT hlV hkl2 i
 refine wp_seq_k fun K6 hK6 => ?_
 refine wp_region_lit ?_
 refine sq hA (q_lssI (n := 3) rfl rfl) rfl fun a hA => ?_
 rcases (show i = 0 ∨ i = 1 ∨ i = 2 ∨ i = 3 by omega) with rfl | rfl | rfl | rfl
 ·skip
  replace hA := hA.decT (by decide)
  refine wpList_nil ?_
  refine hK6 _ _ ?_
  clear hK6
  refine wp_seq_k fun K7 hK7 => ?_
  refine cond_t hA rfl ?_
  refine wp_skip ?_
  refine hK7 _ _ ?_
  clear hK7
  refine wp_seq_k fun K8 hK8 => ?_
  refine wp_block ?_
  refine wp_seq_k fun K9 hK9 => ?_
  refine wp_region_lit ?_
  refine sq hA (q_index Tryz.underlying131 ti41 Tryz.underlying41 rfl rfl rfl ⟨by decide, by decide⟩ rfl) rfl fun a hA => ?_
  refine asg hA fun a hA => ?_
  refine wpList_nil ?_
  refine hK9 _ _ ?_
  clear hK9
  refine wp_region_lit ?_
  refine mv hA fun a hA => ?_
  refine mv hA fun a hA => ?_
  refine sl hA (lo_call fn41 rfl (wtext_any _ _ (hH.rd htv) (by first | omega | (simp; done) | (simp; omega)))) rfl ?_
  rintro _ w ⟨v_t19, N_t19, rfl, hO_t19, hC⟩ a hA
  replace hH := HS.call0 hH hC
  clear hC
  replace hH := hH.pick [1, 0, 2, 3] (Hs' := [_, _, _, _]) rfl
  refine sl hA (lo_appm hH Tryz.underlying41 Tryz.underlying41 (.inl rfl) ti5 rfl rfl rfl hO_o (Rd.src (Own.rd0 hO_t19 hH 1 rfl)) (one_B8 _) (by first | omega | (simp only [List.length_append]; omega)) (by first | omega | (simp only [List.length_append]; omega))) rfl ?_
  clear hH; rintro v_t20 w ⟨N_t20, hO_t20, hH⟩ a hA
  refine asg hA fun a hA => ?_
  refine wpList_nil ?_
  refine block_normal ?_
  refine hK8 _ _ ?_
  clear hK8
  refine wp_region_lit ?_
  refine sq hA (q_addI (n := 1) rfl rfl (by omega)) rfl fun a hA => ?_
  refine mv hA fun a hA => ?_
  refine wpList_nil ?_
  replace hH := hH.pick [0, 2, 3, 1] (Hs' := [_, _, _, _]) rfl
  replace hH := hH.pick [0, 1, 2] (Hs' := [_, _, _]) rfl
  exact ⟨_, by omega, 1, v_t20, N_t20, hA.sub ⟨rfl, rfl, rfl, rfl, trivial⟩, hH, by omega, by exact hO_t20, rfl⟩
 ·skip
  replace hA := hA.decT (by decide)
  refine wpList_nil ?_
  refine hK6 _ _ ?_
  clear hK6
  refine wp_seq_k fun K10 hK10 => ?_
  refine cond_t hA rfl ?_
  refine wp_skip ?_
  refine hK10 _ _ ?_
  clear hK10
  refine wp_seq_k fun K11 hK11 => ?_
  refine wp_block ?_
  refine wp_seq_k fun K12 hK12 => ?_
  refine wp_region_lit ?_
  refine sq hA (q_index Tryz.underlying131 ti41 Tryz.underlying41 rfl rfl rfl ⟨by decide, by decide⟩ rfl) rfl fun a hA => ?_
  refine asg hA fun a hA => ?_
  refine wpList_nil ?_
  refine hK12 _ _ ?_
  clear hK12
  refine wp_region_lit ?_
  refine mv hA fun a hA => ?_
  refine mv hA fun a hA => ?_
  refine sl hA (lo_call fn41 rfl (wtext_any _ _ (hH.rd hvv) (by first | omega | (simp; done) | (simp; omega)))) rfl ?_
  rintro _ w ⟨v_t19, N_t19, rfl, hO_t19, hC⟩ a hA
  replace hH := HS.call0 hH hC
  clear hC
  replace hH := hH.pick [1, 0, 2, 3] (Hs' := [_, _, _, _]) rfl
  refine sl hA (lo_appm hH Tryz.underlying41 Tryz.underlying41 (.inl rfl) ti5 rfl rfl rfl hO_o (Rd.src (Own.rd0 hO_t19 hH 1 rfl)) (one_B8 _) (by first | omega | (simp only [List.length_append]; omega)) (by first | omega | (simp only [List.length_append]; omega))) rfl ?_
  clear hH; rintro v_t20 w ⟨N_t20, hO_t20, hH⟩ a hA
  refine asg hA fun a hA => ?_
  refine wpList_nil ?_
  refine block_normal ?_
  refine hK11 _ _ ?_
  clear hK11
  refine wp_region_lit ?_
  refine sq hA (q_addI (n := 1) rfl rfl (by omega)) rfl fun a hA => ?_
  refine mv hA fun a hA => ?_
  refine wpList_nil ?_
  replace hH := hH.pick [0, 2, 3, 1] (Hs' := [_, _, _, _]) rfl
  replace hH := hH.pick [0, 1, 2] (Hs' := [_, _, _]) rfl
  exact ⟨_, by omega, 2, v_t20, N_t20, hA.sub ⟨rfl, rfl, rfl, rfl, trivial⟩, hH, by omega, by exact hO_t20, rfl⟩
 ·skip
  replace hA := hA.decT (by decide)
  refine wpList_nil ?_
  refine hK6 _ _ ?_
  clear hK6
  refine wp_seq_k fun K13 hK13 => ?_
  refine cond_t hA rfl ?_
  refine wp_skip ?_
  refine hK13 _ _ ?_
  clear hK13
  refine wp_seq_k fun K14 hK14 => ?_
  refine wp_block ?_
  refine wp_seq_k fun K15 hK15 => ?_
  refine wp_region_lit ?_
  refine sq hA (q_index Tryz.underlying131 ti41 Tryz.underlying41 rfl rfl rfl ⟨by decide, by decide⟩ rfl) rfl fun a hA => ?_
  refine asg hA fun a hA => ?_
  refine wpList_nil ?_
  refine hK15 _ _ ?_
  clear hK15
  refine wp_region_lit ?_
  refine mv hA fun a hA => ?_
  refine mv hA fun a hA => ?_
  refine sl hA (lo_call fn41 rfl (wtext_any _ _ (Own.rd0 hO_t12 hH 1 rfl) (by first | omega | (simp; done) | (simp; omega)))) rfl ?_
  rintro _ w ⟨v_t19, N_t19, rfl, hO_t19, hC⟩ a hA
  replace hH := HS.call0 hH hC
  clear hC
  replace hH := hH.pick [1, 0, 2, 3] (Hs' := [_, _, _, _]) rfl
  refine sl hA (lo_appm hH Tryz.underlying41 Tryz.underlying41 (.inl rfl) ti5 rfl rfl rfl hO_o (Rd.src (Own.rd0 hO_t19 hH 1 rfl)) (one_B8 _) (by first | omega | (simp only [List.length_append]; omega)) (by first | omega | (simp only [List.length_append]; omega))) rfl ?_
  clear hH; rintro v_t20 w ⟨N_t20, hO_t20, hH⟩ a hA
  refine asg hA fun a hA => ?_
  refine wpList_nil ?_
  refine block_normal ?_
  refine hK14 _ _ ?_
  clear hK14
  refine wp_region_lit ?_
  refine sq hA (q_addI (n := 1) rfl rfl (by omega)) rfl fun a hA => ?_
  refine mv hA fun a hA => ?_
  refine wpList_nil ?_
  replace hH := hH.pick [0, 2, 3, 1] (Hs' := [_, _, _, _]) rfl
  replace hH := hH.pick [0, 1, 2] (Hs' := [_, _, _]) rfl
  exact ⟨_, by omega, 3, v_t20, N_t20, hA.sub ⟨rfl, rfl, rfl, rfl, trivial⟩, hH, by omega, by exact hO_t20, rfl⟩
 ·skip
  replace hA := hA.decF (by decide)
  refine wpList_nil ?_
  refine hK6 _ _ ?_
  clear hK6
  refine wp_seq_k fun K16 hK16 => ?_
  refine cond_f hA rfl ?_
  refine wp_exit ?_
  refine then_exit ?_
  replace hH := HS.unfold [_, _] hNR5 hH
  refine then_exit ?_
  refine exit_here ?_
  refine hK3 _ _ ?_
  clear hK3
  replace hA := hA.s2 3 2
  refine wp_seq_k fun K17 hK17 => ?_
  refine wp_region_lit ?_
  refine mv hA fun a hA => ?_
  refine asg hA fun a hA => ?_
  refine wpList_nil ?_
  refine hK17 _ _ ?_
  clear hK17
  replace hA := hA.s1 2
  refine wp_ret ?_
  refine post_ret hA (res_1 rfl hA rfl) ?_
  replace hH := hH.pick [0] (Hs' := [_]) rfl
  exact ⟨_, rfl, v_o, N_o, rfl, by rw [hkb] at hO_o; exact hO_o, hH⟩

theorem refenc20_any {w0 : World} (tv vv : Value) (T V : Bs) (htv : By [] w0 tv T) (hvv : By [] w0 vv V) (hlT : T.length ≤ 1048576) (hlV : V.length ≤ 1048576) (ix : Int) (ua xa : Value) (A B : List Bs) (hdA : Dg A) (hdB : Dg B) (hua : RdD [] w0 ua A) (hxa : RdD [] w0 xa B) (hlA : A.length ≤ 1048576) (hlB : B.length ≤ 1048576) (hi9 : ix ≤ 9223372036854775807) (hA4 : A.length ≤ 4096) (hB4 : B.length ≤ 4096) :
    Calls Tryz.prog 39 #[(.agg #[tv, vv, I ix, ua, xa])] w0 (Ret fun r w' => ∃ v' N, v' = r ∧ Ow B8 5 v' (encR T V (encK ix A B)) N ∧ HS [] w0 w' [N]) := by
 have hH := HS.start w0
 refine start (n := 18) (E := [(0, _)]) Tryz.func39 rfl rfl rfl (args_look rfl) ?_
 intro a hA
 obtain ⟨kb, hkb⟩ : ∃ x, x = encK ix A B := ⟨_, rfl⟩
 have hkl : kb.length ≤ 9 + 32 * A.length + 32 * B.length := by rw [hkb]; exact encK_len hi9 hdA hdB
 have hkl2 : kb.length ≤ 1048576 := by omega
 have hw0 := wtext_len9 hlT
 have hw1 := wtext_len9 hlV
 have hw2 := wtext_len9 hkl2
 refine wp_seq_k fun K1 hK1 => ?_
 refine wp_region_lit ?_
 refine sl hA (lo_boxA hH rfl) rfl ?_
 clear hH; rintro _ w ⟨b_t1, rfl, hH⟩ a hA
 refine asg hA fun a hA => ?_
 refine wpList_nil ?_
 refine hK1 _ _ ?_
 clear hK1
 replace hA := hA.s2 2 1
 refine wp_seq_k fun K2 hK2 => ?_
 refine wp_region_lit ?_
 refine sq hA (q_fld 0 Tryz.underlying87 rfl rfl ti41 rfl) rfl fun a hA => ?_
 refine sq hA (q_loadB hH 0 rfl (List.mem_singleton.2 rfl) Tryz.underlying41 rfl rfl rfl) rfl fun a hA => ?_
 refine sl hA (lo_call fn81 rfl (refwtext_any _ _ (hH.rd htv) (by first | omega | (simp; done) | (simp; omega)))) rfl ?_
 rintro _ w ⟨v_t6, N_t6, rfl, hO_t6, hC⟩ a hA
 replace hH := HS.call0 hH hC
 clear hC
 refine asg hA fun a hA => ?_
 refine wpList_nil ?_
 refine hK2 _ _ ?_
 clear hK2
 replace hA := hA.s3 3 2 1
 refine wp_seq_k fun K3 hK3 => ?_
 refine wp_region_lit ?_
 refine mv hA fun a hA => ?_
 refine sq hA (q_fld 1 Tryz.underlying87 rfl rfl ti41 rfl) rfl fun a hA => ?_
 refine sq hA (q_loadB hH 1 rfl (List.mem_singleton.2 rfl) Tryz.underlying41 rfl rfl rfl) rfl fun a hA => ?_
 refine sl hA (lo_call fn81 rfl (refwtext_any _ _ (hH.rd hvv) (by first | omega | (simp; done) | (simp; omega)))) rfl ?_
 rintro _ w ⟨v_t10, N_t10, rfl, hO_t10, hC⟩ a hA
 replace hH := HS.call0 hH hC
 clear hC
 replace hH := hH.pick [1, 0, 2] (Hs' := [_, _, _]) rfl
 refine sl hA (lo_appm hH Tryz.underlying41 Tryz.underlying41 (.inl rfl) ti5 rfl rfl rfl hO_t6 (Rd.src (Own.rd0 hO_t10 hH 1 rfl)) (one_B8 _) (by first | omega | (simp only [List.length_append, List.length_cons, List.length_nil]; omega)) (by first | omega | (simp only [List.length_append, List.length_cons, List.length_nil]; omega))) rfl ?_
 clear hH; rintro v_t11 w ⟨N_t11, hO_t11, hH⟩ a hA
 refine asg hA fun a hA => ?_
 refine wpList_nil ?_
 refine hK3 _ _ ?_
 clear hK3
 replace hA := hA.s3 3 2 1
 refine wp_seq_k fun K4 hK4 => ?_
 refine wp_region_lit ?_
 refine mv hA fun a hA => ?_
 refine sq hA (q_fld 2 Tryz.underlying87 rfl rfl ti81 rfl) rfl fun a hA => ?_
 refine sq hA (q_loadBA hH 2 rfl (List.mem_singleton.2 rfl) Tryz.underlying81 rfl ti81 rfl [_, _, _] rfl rfl) rfl fun a hA => ?_
 refine sl hA (lo_call fn82 rfl (refenc7_any _ _ _ _ _ (by first | assumption | exact Dg.nil) (by first | assumption | exact Dg.nil) (hH.rd hua) (hH.rd hxa) (by first | omega | (simp; done) | (simp; omega)) (by first | omega | (simp; done) | (simp; omega)) (by omega))) rfl ?_
 rintro _ w ⟨v_t15, N_t15, rfl, hO_t15, hC⟩ a hA
 replace hH := HS.call0 hH hC
 clear hC
 rw [← hkb] at hO_t15
 refine sl hA (lo_call fn81 rfl (refwtext_any _ _ (Own.rd0 hO_t15 hH 0 rfl) (by first | omega | (simp; done) | (simp; omega)))) rfl ?_
 rintro _ w ⟨v_t16, N_t16, rfl, hO_t16, hC⟩ a hA
 replace hH := HS.call0 hH hC
 clear hC
 replace hH := hH.pick [2, 0, 1, 3, 4] (Hs' := [_, _, _, _, _]) rfl
 refine sl hA (lo_appm hH Tryz.underlying41 Tryz.underlying41 (.inl rfl) ti5 rfl rfl rfl hO_t11 (Rd.src (Own.rd0 hO_t16 hH 1 rfl)) (one_B8 _) (by first | omega | (simp only [List.length_append, List.length_cons, List.length_nil]; omega)) (by first | omega | (simp only [List.length_append, List.length_cons, List.length_nil]; omega))) rfl ?_
 clear hH; rintro v_t17 w ⟨N_t17, hO_t17, hH⟩ a hA
 refine asg hA fun a hA => ?_
 refine wpList_nil ?_
 refine hK4 _ _ ?_
 clear hK4
 replace hA := hA.s1 2
 refine wp_ret ?_
 refine post_ret hA (res_1 rfl hA rfl) ?_
 replace hH := hH.pick [0] (Hs' := [_]) rfl
 exact ⟨_, rfl, v_t17, N_t17, rfl, by rw [hkb] at hO_t17; exact hO_t17, hH⟩




end Go.Proofs.YtnnkgdijaekcfaaGreatDoor
