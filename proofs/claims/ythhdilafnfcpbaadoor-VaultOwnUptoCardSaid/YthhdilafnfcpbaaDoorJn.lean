/- Layer 12 (vault): the document's vault. -/
import Derived.Test.YthhdilafnfcpbaaDoorJl
namespace Go.Proofs.YthhdilafnfcpbaaDoor
open Go
set_option linter.unusedVariables false
set_option linter.unusedSimpArgs false
set_option maxRecDepth 100000

theorem refadd_any {w0 : World} (b_m g : Nat) (x rr : Value) (recs : List Bs) (N_mo N_md : Hl) (hR_m : RowsH 32 rr recs N_mo N_md) (hrn : recs.length ≤ 1048576) (v : Value) (l : Bs) (hr : By (doms [[(b_m, Obj.cells (mC g x rr).toArray 35 (0, 0))], N_mo, N_md]) w0 v l) (hl : l.length ≤ 262080) (hH : HS (doms [[(b_m, Obj.cells (mC g x rr).toArray 35 (0, 0))], N_mo, N_md]) w0 w0 [[(b_m, Obj.cells (mC g x rr).toArray 35 (0, 0))], N_mo, N_md]) :
    Calls Tryd.prog 28 #[(.pointer (some ⟨b_m, 0, none⟩)), v] w0 (Ret fun r w' => ∃ rq N_o' N_d', r = I 0 ∧ RowsH 32 rq (recs ++ [l]) N_o' N_d' ∧ HS (doms [[(b_m, Obj.cells (mC g x rr).toArray 35 (0, 0))], N_mo, N_md]) w0 w' [[(b_m, Obj.cells (mC g x rq).toArray 35 (0, 0))], N_o', N_d']) := by
 refine start (n := 20) (E := [(0, _), (1, _)]) Tryd.func28 rfl rfl rfl (args_look rfl) ?_
 intro a hA
 refine wp_seq_k fun K1 hK1 => ?_
 refine wp_region_lit ?_
 refine asg hA fun a hA => ?_
 refine wpList_nil ?_
 refine hK1 _ _ ?_
 clear hK1
 refine wp_seq_k fun K2 hK2 => ?_
 refine wp_seq_k fun K3 hK3 => ?_
 refine wp_region_lit ?_
 refine mv hA fun a hA => ?_
 refine sq hA (q_len Tryd.underlying32 rfl (Rd.shp hr)) rfl fun a hA => ?_
 refine sq hA (q_gtrI (n := 262080) rfl rfl) rfl fun a hA => ?_
 refine wpList_nil ?_
 refine hK3 _ _ ?_
 clear hK3
 replace hA := hA.s4 7 4 0 1
 refine cond_d hA rfl (fun hnn => absurd hnn (by omega)) (fun _ => ?_)
 refine wp_skip ?_
 refine hK2 _ _ ?_
 clear hK2
 replace hA := hA.s3 4 0 1
 refine wp_seq_k fun K4 hK4 => ?_
 refine any_go mixed (fun j => !(Nat.beq j 9 || Nat.beq j 12)) hH ?_
 clear hH; intro w hH
 have hS := hH
 refine any_l 13 ?_
 refine p0 hA 0 1 rfl (fun w => (q_move rfl)) fun a hA => ?_
 refine p0 hA 1 3 rfl (fun w => (q_move rfl)) fun a hA => ?_
 refine p0 hA 2 7 rfl (fun w => (q_nilCheck rfl)) fun a hA => ?_
 refine p0 hA 3 15 rfl (fun w => (q_fld 2 Tryd.underlying35 rfl rfl ti33 rfl)) fun a hA => ?_
 refine r0 hA 4 31 rfl hS (fun w hH => (q_loadB hH 0 rfl (List.mem_singleton.2 rfl) Tryd.underlying33 rfl rfl rfl)) fun a hA => ?_
 refine p0 hA 6 95 rfl (fun w => (q_move rfl)) fun a hA => ?_
 refine a1 hA 5 127 rfl (lo_bs (f := B8) (e := 5) ([]) hH rfl rfl (fun w => by kernel_rfl)) ?_
 clear hH; rintro v_t13 w ⟨N_t13, hO_t13, hH⟩
 replace hS := hH.pick [1, 2, 3] (Hs' := [_, _, _]) rfl
 refine ⟨fun _ _ => hS, ?_⟩
 intro a hA
 refine a1 hA 7 255 rfl (lo_appm hH Tryd.underlying32 Tryd.underlying32 (.inl rfl) ti5 rfl rfl rfl hO_t13 (Rd.src (hH.rd hr)) (one_B8 _) (by first | omega | (simp; done) | (simp; omega)) (by first | omega | (simp; done) | (simp; omega))) ?_
 clear hH; rintro v_t15 w ⟨N_t15, hO_t15, hH⟩
 replace hS := hH.pick [1, 2, 3] (Hs' := [_, _, _]) rfl
 refine ⟨fun _ _ => hS, ?_⟩
 intro a hA
 replace hO_t15 : Ow B8 5 v_t15 l N_t15 := by simpa using hO_t15
 refine a1 hA 8 511 rfl (lo_build1 hH Tryd.underlying33 ti32 rfl rfl (Own.one hO_t15)) ?_
 clear hH; rintro v_t16 w ⟨N_t16, hO_t16, hH⟩
 replace hS := hH.pick [2, 3, 4] (Hs' := [_, _, _]) rfl
 refine ⟨fun _ _ => hS, ?_⟩
 intro a hA
 replace hH := hH.pick [3, 0, 1, 2, 4] (Hs' := [_, _, _, _, _]) rfl
 obtain ⟨vs_t17, hvl_t17, hvo_t17, hvr_t17⟩ := hR_m
 refine a1n hA 9 1023 rfl (lo_append hH Tryd.underlying33 Tryd.underlying33 (.inl rfl) ti32 rfl rfl rfl hvo_t17 (Rd.src (Own.rd0 hO_t16 hH 1 rfl)) (by intro u hu; rw [List.mem_singleton.1 hu]; exact Own.one hO_t15) (by first | omega | (simp; done) | (simp; omega)) (by first | omega | (simp; done) | (simp; omega))) ?_
 clear hH; rintro v_t17 w ⟨N_t17, hO_t17, hH⟩
 replace hH := HS.join (hH.pick [2, 4, 0, 1, 3] (Hs' := [_, _, _, _, _]) rfl)
 obtain ⟨N_dt17, hN_dt17, hR_t17⟩ : ∃ N, N = _ ∧ RowsH 32 v_t17 _ N_t17 N := ⟨_, rfl, RowsH.snoc hvl_t17 hO_t17 hvr_t17 (Own.rdh hO_t15)⟩
 rw [← hN_dt17] at hH
 intro a hA
 refine p0 hA 10 2047 rfl (fun w => (q_nilCheck rfl)) fun a hA => ?_
 refine p0 hA 11 4095 rfl (fun w => (q_fld 2 Tryd.underlying35 rfl rfl ti33 rfl)) fun a hA => ?_
 replace hH := hH.pick [3, 0, 1, 2] (Hs' := [_, _, _, _]) rfl
 refine a0n hA 12 8191 rfl (lo_store1 hH ti33 rfl rfl ((show 2 < 3 by decide)) (RowsH.one hR_t17)) ?_
 clear hH; rintro _ w hH
 rw [mC_recs] at hH
 refine a_end (by kernel_rfl) ?_ _
 refine hK4 _ _ ?_
 clear hK4
 replace hA := hA.s1 4
 refine wp_seq_k fun K5 hK5 => ?_
 refine wp_region_lit ?_
 refine asg hA fun a hA => ?_
 refine wpList_nil ?_
 refine hK5 _ _ ?_
 clear hK5
 refine wp_ret ?_
 refine post_ret hA (res_1 rfl hA rfl) ?_
 replace hH := hH.pick [0, 2, 1, 3] (Hs' := [_, _, _, _]) rfl
 replace hH := hH.pick [0, 1, 2] (Hs' := [_, _, _]) rfl
 exact ⟨_, rfl, v_t17, N_t17, N_dt17, rfl, hR_t17, hH⟩

theorem refsave_any {w0 : World} (b_m g : Nat) (hg40 : g < 1099511627776) (x rr : Value) (v : Value) (l : Bs) (hr : By [b_m] w0 v l) (hl : l.length ≤ 262080) (hH : HS [b_m] w0 w0 [[(b_m, Obj.cells (mC g x rr).toArray 35 (0, 0))]]) :
    Calls Tryd.prog 27 #[(.pointer (some ⟨b_m, 0, none⟩)), v] w0 (Ret fun r w' => ∃ x' N_x', r = I 0 ∧ Ow B8 5 x' l N_x' ∧ HS [b_m] w0 w' [[(b_m, Obj.cells (mC (g + 1) x' nilV).toArray 35 (0, 0))], N_x']) := by
 refine start (n := 29) (E := [(0, _), (1, _)]) Tryd.func27 rfl rfl rfl (args_look rfl) ?_
 intro a hA
 refine wp_seq_k fun K1 hK1 => ?_
 refine wp_region_lit ?_
 refine asg hA fun a hA => ?_
 refine wpList_nil ?_
 refine hK1 _ _ ?_
 clear hK1
 refine wp_seq_k fun K2 hK2 => ?_
 refine wp_seq_k fun K3 hK3 => ?_
 refine wp_region_lit ?_
 refine mv hA fun a hA => ?_
 refine sq hA (q_len Tryd.underlying32 rfl (Rd.shp hr)) rfl fun a hA => ?_
 refine sq hA (q_gtrI (n := 262080) rfl rfl) rfl fun a hA => ?_
 refine wpList_nil ?_
 refine hK3 _ _ ?_
 clear hK3
 replace hA := hA.s4 7 4 0 1
 refine cond_d hA rfl (fun hnn => absurd hnn (by omega)) (fun _ => ?_)
 refine wp_skip ?_
 refine hK2 _ _ ?_
 clear hK2
 replace hA := hA.s3 4 0 1
 refine wp_seq_k fun K4 hK4 => ?_
 refine wp_seq_k fun K5 hK5 => ?_
 refine wp_region_lit ?_
 refine mv hA fun a hA => ?_
 refine sq hA (q_nilCheck rfl) rfl fun a hA => ?_
 refine sq hA (q_fld 0 Tryd.underlying35 rfl rfl ti3 rfl) rfl fun a hA => ?_
 refine sq hA (q_loadB hH 0 rfl (List.mem_singleton.2 rfl) Tryd.underlying3 rfl rfl rfl) rfl fun a hA => ?_
 refine sq hA (q_eqlI (n := 1099511627776) rfl rfl) rfl fun a hA => ?_
 refine wpList_nil ?_
 refine hK5 _ _ ?_
 clear hK5
 replace hA := hA.s4 12 4 0 1
 refine cond_d hA rfl (fun hnn => absurd hnn (by omega)) (fun _ => ?_)
 refine wp_skip ?_
 refine hK4 _ _ ?_
 clear hK4
 replace hA := hA.s3 4 0 1
 refine wp_seq_k fun K6 hK6 => ?_
 refine wp_region_lit ?_
 refine mv hA fun a hA => ?_
 refine sq hA (q_nilCheck rfl) rfl fun a hA => ?_
 refine sq hA (q_fld 0 Tryd.underlying35 rfl rfl ti3 rfl) rfl fun a hA => ?_
 refine sq hA (q_loadB hH 0 rfl (List.mem_singleton.2 rfl) Tryd.underlying3 rfl rfl rfl) rfl fun a hA => ?_
 refine sq hA (q_addI (n := 1) rfl rfl (by omega)) rfl fun a hA => ?_
 rw [show ((g : Nat) : Int) + 1 = ((g + 1 : Nat) : Int) by omega] at hA
 refine sq hA (q_nilCheck rfl) rfl fun a hA => ?_
 refine sq hA (q_fld 0 Tryd.underlying35 rfl rfl ti3 rfl) rfl fun a hA => ?_
 refine s0 hA (lo_store1 hH ti3 rfl rfl ((show 0 < 3 by decide)) rfl) ?_
 clear hH; rintro _ w hH
 rw [mC_gen] at hH
 refine wpList_nil ?_
 refine hK6 _ _ ?_
 clear hK6
 replace hA := hA.s3 4 0 1
 refine wp_seq_k fun K7 hK7 => ?_
 refine wp_region_lit ?_
 refine mv hA fun a hA => ?_
 refine sl hA (lo_bs (f := B8) (e := 5) ([]) hH rfl rfl (fun w => by kernel_rfl)) rfl ?_
 clear hH; rintro v_t21 w ⟨N_t21, hO_t21, hH⟩ a hA
 refine mv hA fun a hA => ?_
 refine sl hA (lo_appm hH Tryd.underlying32 Tryd.underlying32 (.inl rfl) ti5 rfl rfl rfl hO_t21 (Rd.src (hH.rd hr)) (one_B8 _) (by first | omega | (simp; done) | (simp; omega)) (by first | omega | (simp; done) | (simp; omega))) rfl ?_
 clear hH; rintro v_t23 w ⟨N_t23, hO_t23, hH⟩ a hA
 replace hO_t23 : Ow B8 5 v_t23 l N_t23 := by simpa using hO_t23
 refine sq hA (q_nilCheck rfl) rfl fun a hA => ?_
 refine sq hA (q_fld 1 Tryd.underlying35 rfl rfl ti32 rfl) rfl fun a hA => ?_
 replace hH := hH.pick [1, 0] (Hs' := [_, _]) rfl
 refine s0 hA (lo_store1 hH ti32 rfl rfl ((show 1 < 3 by decide)) (Own.one hO_t23)) ?_
 clear hH; rintro _ w hH
 rw [mC_text] at hH
 refine wpList_nil ?_
 refine hK7 _ _ ?_
 clear hK7
 replace hA := hA.s2 4 0
 refine wp_seq_k fun K8 hK8 => ?_
 refine wp_region_lit ?_
 refine mv hA fun a hA => ?_
 refine sq hA (q_nilCheck rfl) rfl fun a hA => ?_
 refine sq hA (q_fld 2 Tryd.underlying35 rfl rfl ti33 rfl) rfl fun a hA => ?_
 refine s0 hA (lo_store1 hH ti33 rfl rfl ((show 2 < 3 by decide)) rfl) ?_
 clear hH; rintro _ w hH
 rw [mC_recs] at hH
 refine wpList_nil ?_
 refine hK8 _ _ ?_
 clear hK8
 replace hA := hA.s1 4
 refine wp_seq_k fun K9 hK9 => ?_
 refine wp_region_lit ?_
 refine asg hA fun a hA => ?_
 refine wpList_nil ?_
 refine hK9 _ _ ?_
 clear hK9
 refine wp_ret ?_
 refine post_ret hA (res_1 rfl hA rfl) ?_
 exact ⟨_, rfl, v_t23, N_t23, rfl, hO_t23, hH⟩

end Go.Proofs.YthhdilafnfcpbaaDoor
