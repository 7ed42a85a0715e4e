/- Layer 12 (vault): the journal is read. -/
import Derived.Test.YthhdilafnfcpbaaDoorJh
import Derived.Test.YthhdilafnfcpbaaDoorVz
namespace Go.Proofs.YthhdilafnfcpbaaDoor
open Go
set_option linter.unusedVariables false
set_option linter.unusedSimpArgs false
set_option maxRecDepth 100000

set_option maxHeartbeats 2000000 in
theorem replay_any {w0 : World} {lv : Nat} (hg : Gl lv w0) (b_v b_t g : Nat) (x : Value) (u : Value) (l : Bs) (T : Tp) (N : Hl) (hT : TM 5 76 66 b_t T N) (hB : Rdy T 4000) (hnow : (T.fs 0).now = l) (hgM : NG lv (doms [N, [(b_v, Obj.cells (vC b_t g x nilV false).toArray 68 (0, 0))]])) (hu : By (doms [N, [(b_v, Obj.cells (vC b_t g x nilV false).toArray 68 (0, 0))]]) w0 u l) (hl : l.length ≤ 1000000) (hH : HS (doms [N, [(b_v, Obj.cells (vC b_t g x nilV false).toArray 68 (0, 0))]]) w0 w0 [N, [(b_v, Obj.cells (vC b_t g x nilV false).toArray 68 (0, 0))]]) :
    Calls Tryd.prog 35 #[(.pointer (some ⟨b_v, 0, none⟩)), u] w0 (Ret fun r w' => ∃ N' rq N_o' N_od', r = I (mend T).1 ∧ TM 5 76 66 b_t (mend T).2 N' ∧ RowsH 32 rq (jrecs g l) N_o' N_od' ∧ HS (doms [N, [(b_v, Obj.cells (vC b_t g x nilV false).toArray 68 (0, 0))]]) w0 w' [N', [(b_v, Obj.cells (vC b_t g x rq (decide ((mend T).1 = 100))).toArray 68 (0, 0))], N_o', N_od']) := by
 refine start (n := 71) (E := [(0, _), (1, _)]) Tryd.func35 rfl rfl rfl (args_look rfl) ?_
 intro a hA
 obtain ⟨recs, hrecs⟩ : ∃ z, z = (scanV l).1 := ⟨_, rfl⟩
 have hS := scN_one l l.length
 have hS1 : wfs recs = l.take (scanV l).2 := by rw [hrecs]; exact hS.1
 have hS2 : ∀ y ∈ recs, y.length ≤ 262144 := by rw [hrecs]; exact hS.2
 have hSl : (scanV l).2 ≤ l.length := scN_le l l.length
 have hS3 : (wfs recs).length = (scanV l).2 := by rw [hS1, List.length_take]; exact Nat.min_eq_left hSl
 have hSc : 9 * recs.length ≤ l.length := by rw [hrecs]; exact Nat.le_trans (scN_count l l.length) hSl
 refine wp_seq_k fun K1 hK1 => ?_
 refine wp_region_lit ?_
 refine sl hA (lo_box1 hH rfl rfl) rfl ?_
 clear hH; rintro _ w ⟨b_t2, rfl, hH⟩ a hA
 refine asg hA fun a hA => ?_
 refine wpList_nil ?_
 refine hK1 _ _ ?_
 clear hK1
 replace hA := hA.s3 4 2 1
 refine wp_seq_k fun K2 hK2 => ?_
 refine wp_region_lit ?_
 refine mv hA fun a hA => ?_
 refine sl hA (lo_call fn32 rfl (scan_any (hg.mono hH hgM) _ _ (hH.rd hu) (by omega))) rfl ?_
 rintro _ w ⟨v_t17, N_t17, N_dt17, rfl, hR_t17, hC⟩ a hA
 replace hH := HS.call0 hH hC
 clear hC
 rw [← hrecs] at hR_t17
 refine mv hA fun a hA => ?_
 refine sq hA (q_extract rfl rfl) rfl fun a hA => ?_
 refine sq hA (q_extract rfl rfl) rfl fun a hA => ?_
 refine sl hA (lo_alloc1 hH ti3 rfl) rfl ?_
 clear hH; rintro _ w ⟨b_t6, rfl, hH⟩ a hA
 refine asg hA fun a hA => ?_
 refine s0 hA (lo_store1 hH ti3 rfl rfl (by first | omega | (simp; done) | (simp; omega) | (rw [List.length_map]; assumption) | assumption | rfl | (simp [*]; done) | (simp [*]; omega)) rfl) ?_
 clear hH; rintro _ w hH
 refine wpList_nil ?_
 refine hK2 _ _ ?_
 clear hK2
 replace hA := hA.s5 5 6 4 2 1
 refine wp_seq_k fun K3 hK3 => ?_
 refine wp_region_lit ?_
 refine asg hA fun a hA => ?_
 refine wpList_nil ?_
 refine hK3 _ _ ?_
 clear hK3
 refine wp_seq_k fun K4 hK4 => ?_
 refine wp_seq_k fun K5 hK5 => ?_
 refine wp_region_lit ?_
 refine mv hA fun a hA => ?_
 refine sq hA (q_len Tryd.underlying33 rfl (RowsH.shp hR_t17)) rfl fun a hA => ?_
 refine mv hA fun a hA => ?_
 refine wpList_nil ?_
 refine hK5 _ _ ?_
 clear hK5
 replace hA := hA.s8 22 21 20 7 6 4 2 1
 refine wp_block ?_
 replace hH := hH.nilFront
 replace hH := hH.nilFront
 replace hH := hH.pick [7, 0, 1, 3, 4, 5, 2, 6] (Hs' := [_, _, _, _, _, _, _, _]) rfl
 replace hH := HS.fold [_, _, _, _, _, _, _] [_] hH
 obtain ⟨NR6, hNR6, hH⟩ := hH
 refine wp_loop_ghost (fun gm a w => ∃ k : Nat, ∃ rq : Value, ∃ N_o : Hl, ∃ N_od : Hl, At 71 [(22, I k), (21, I (recs.length : Int)), (20, v_t17), (7, I ((wfs (recs.take k)).length : Nat)), (6, (.pointer (some ⟨b_t6, 0, none⟩))), (4, (I 0)), (2, (.pointer (some ⟨b_t2, 0, none⟩))), (1, u)] a ∧ HS (doms [N, [(b_v, Obj.cells (vC b_t g x nilV false).toArray 68 (0, 0))]]) w0 w ([[(b_v, Obj.cells (vC b_t g x rq false).toArray 68 (0, 0))], N_o, N_od, N_t17, N_dt17, [(b_t2, Obj.cells [(.pointer (some ⟨b_v, 0, none⟩))].toArray 27 (0, 0))], [(b_t6, Obj.cells [I (((scanV l).2 : Nat) : Int)].toArray 3 (0, 0))], NR6]) ∧ (k ≤ recs.length) ∧ (RowsH 32 rq (jrk g (recs.take k)) N_o N_od) ∧ (∀ y ∈ recs.take k, recOk y = true) ∧ gm = recs.length - k) (recs.length - (0)) ⟨0, nilV, [], [], hA.sub ⟨rfl, rfl, rfl, rfl, rfl, rfl, rfl, rfl, trivial⟩, hH, by omega, by exact RowsH.nil _, by (intro y hy; simp at hy), rfl⟩ ?_
 clear hA hH
 rintro gm a w ⟨k, rq, N_o, N_od, hA, hH, hk, hR', hokk, rfl⟩
 refine wp_seq_k fun K7 hK7 => ?_
 refine wp_region_lit ?_
 refine sq hA (q_lssI rfl rfl) rfl fun a hA => ?_
 refine wpList_nil ?_
 refine hK7 _ _ ?_
 clear hK7
 refine wp_seq_k fun K8 hK8 => ?_
 refine cond_d hA rfl (fun hc23 => ?_) (fun hc23 => ?_)
 ·skip
  refine wp_skip ?_
  refine hK8 _ _ ?_
  clear hK8
  refine wp_seq_k fun K9 hK9 => ?_
  refine wp_block ?_
  refine wp_seq_k fun K10 hK10 => ?_
  refine wp_region_lit ?_
  refine sq hA (q_idx1 (k) Tryd.underlying33 ti32 rfl rfl (by first | omega | rfl) (RowsH.shp hR_t17) (by first | omega | (simp; done) | (simp; omega) | (rw [List.length_map]; assumption) | assumption | rfl | (simp [*]; done) | (simp [*]; omega))) rfl fun a hA => ?_
  have hyl := hS2 _ (getD_mem (i := k) (by omega))
  have hws := wfs_snoc recs (i := k) (by omega)
  have hwt := wfs_take_le recs (k + 1)
  have hwl2 : (wfs (recs.take (k + 1))).length = (wfs (recs.take k)).length + (wf (recs.getD k [])).length := by rw [hws, List.length_append]
  have hx_t25 := hR_t17
  obtain ⟨vs_t25, hvl_t25, hvo_t25, hvr_t25⟩ := hx_t25
  refine sq hA (q_loadR Tryd.underlying32 rfl rfl (Own.rd0 hvo_t25 hH 3 rfl) (by first | omega | (simp; done) | (simp; omega) | (rw [List.length_map]; assumption) | assumption | rfl | (simp [*]; done) | (simp [*]; omega)) (getD_some' vs_t25 nilV (by first | omega | (simp; done) | (simp; omega) | (rw [List.length_map]; assumption) | assumption | rfl | (simp [*]; done) | (simp [*]; omega)))) rfl fun a hA => ?_
  refine asg hA fun a hA => ?_
  refine wpList_nil ?_
  refine hK10 _ _ ?_
  clear hK10
  refine wp_seq_k fun K11 hK11 => ?_
  refine wp_region_lit ?_
  refine mv hA fun a hA => ?_
  refine sl hA (lo_call fn33 rfl (unpack_any _ _ ((hvr_t25 (k) (by first | omega | (simp; done) | (simp; omega) | (rw [List.length_map]; assumption) | assumption | rfl | (simp [*]; done) | (simp [*]; omega))) [] _ (RO.of hH 4 rfl)) (by omega))) rfl ?_
  rintro _ w ⟨v_t28, N_t28, rfl, hO_t28, hC⟩ a hA
  replace hH := HS.call0 hH hC
  clear hC
  refine mv hA fun a hA => ?_
  refine sq hA (q_extract rfl rfl) rfl fun a hA => ?_
  refine sq hA (q_extract rfl rfl) rfl fun a hA => ?_
  refine sq hA (q_extract rfl rfl) rfl fun a hA => ?_
  rcases hb : (unp (recs.getD k [])).2.2 with _ | _
  ·skip
   rw [hb] at hA
   have hj : jok l = recs.take k := by rw [jok, ← hrecs]; exact tw_stop (d := []) (by omega) hokk hb
   have hjg : jgood l = (wfs (recs.take k)).length := by show (wfs (jok l)).length = _; rw [hj]
   have hRj : RowsH 32 rq (jrecs g l) N_o N_od := by show RowsH _ _ (jrk g (jok l)) _ _; rw [hj]; exact hR'
   refine asg hA fun a hA => ?_
   refine asg hA fun a hA => ?_
   refine asg hA fun a hA => ?_
   refine wpList_nil ?_
   refine hK11 _ _ ?_
   clear hK11
   refine wp_seq_k fun K12 hK12 => ?_
   refine wp_seq_k fun K13 hK13 => ?_
   refine wp_region_lit ?_
   refine mv hA fun a hA => ?_
   refine sq hA (q_not rfl) rfl fun a hA => ?_
   refine wpList_nil ?_
   refine hK13 _ _ ?_
   clear hK13
   refine cond_t hA rfl ?_
   refine wp_seq_k fun K14 hK14 => ?_
   refine wp_region_lit ?_
   refine mv hA fun a hA => ?_
   replace hH := hH.pick [7, 0, 1, 2, 3, 4, 5, 6, 8] (Hs' := [_, _, _, _, _, _, _, _, _]) rfl
   refine s0 hA (lo_store1 hH ti3 rfl rfl (by first | omega | (simp; done) | (simp; omega) | (rw [List.length_map]; assumption) | assumption | rfl | (simp [*]; done) | (simp [*]; omega)) rfl) ?_
   clear hH; rintro _ w hH
   refine wpList_nil ?_
   refine hK14 _ _ ?_
   clear hK14
   refine wp_exit ?_
   refine then_exit ?_
   refine exit_out rfl ?_
   refine then_exit ?_
   replace hH := HS.unfold [_, _, _, _, _, _, _, _] hNR6 hH
   refine then_exit ?_
   refine exit_here ?_
   refine hK4 _ _ ?_
   clear hK4
   replace hA := hA.s4 6 4 2 1
   refine wp_seq_k fun K15 hK15 => ?_
   refine wp_seq_k fun K16 hK16 => ?_
   refine wp_region_lit ?_
   refine sq hA (q_loadB hH 0 rfl (List.mem_singleton.2 rfl) Tryd.underlying3 rfl rfl rfl) rfl fun a hA => ?_
   rw [← hjg] at hA hH
   refine mv hA fun a hA => ?_
   refine sq hA (q_len Tryd.underlying32 rfl (Rd.shp hu)) rfl fun a hA => ?_
   refine sq hA (q_eqlI rfl rfl) rfl fun a hA => ?_
   refine wpList_nil ?_
   refine hK16 _ _ ?_
   clear hK16
   replace hA := hA.s4 64 6 4 2
   refine cond_d hA rfl (fun hc64 => ?_) (fun hc64 => ?_)
   ·skip
    have hm : mend T = (0, T) := by rw [mend, hnow, if_pos (by omega)]
    refine wp_seq_k fun K17 hK17 => ?_
    refine wp_region_lit ?_
    refine asg hA fun a hA => ?_
    refine wpList_nil ?_
    refine hK17 _ _ ?_
    clear hK17
    replace hA := hA.s3 4 6 2
    refine wp_ret ?_
    refine then_ret ?_
    refine post_ret hA (res_1 rfl hA rfl) ?_
    replace hH := hH.pick [8, 2, 3, 4, 0, 1, 5, 6, 7] (Hs' := [_, _, _, _, _, _, _, _, _]) rfl
    replace hH := hH.pick [0, 1, 2, 3] (Hs' := [_, _, _, _]) rfl
    rw [hm]; exact ⟨_, rfl, N, rq, N_o, N_od, rfl, hT, hRj, hH⟩
   ·skip
    have hm : mend T = mendS (jgood l) T := by rw [mend, hnow, if_neg (by omega)]; rfl
    refine wp_skip ?_
    refine hK15 _ _ ?_
    clear hK15
    replace hA := hA.s3 6 4 2
    refine wp_seq_k fun K18 hK18 => ?_
    refine any_goI mixed [0, 1, 3, 4, 5, 6, 7] (Hs' := [_, _, _, _, _, _, _]) rfl (fun _ => true) hH ?_
    clear hH; intro w hH hS
    refine any_l 7 ?_
    refine r0 hA 0 1 rfl hS (fun w hH => (q_loadB hH 6 rfl (List.mem_singleton.2 rfl) Tryd.underlying27 rfl rfl rfl)) fun a hA => ?_
    refine p0 hA 1 3 rfl (fun w => (q_makeFunc rfl rfl)) fun a hA => ?_
    refine r0 hA 2 7 rfl hS (fun w hH => (q_loadB hH 6 rfl (List.mem_singleton.2 rfl) Tryd.underlying27 rfl rfl rfl)) fun a hA => ?_
    refine a1 hA 3 15 rfl (lo_call fn46 rfl (syncm_any b_v 0)) ?_
    rintro _ w ⟨b_p2, b_q2, rfl, hC⟩
    replace hH := HS.call0 hH hC
    clear hC
    replace hS := hH.pick [2, 3, 5, 6, 7, 8, 9] (Hs' := [_, _, _, _, _, _, _]) rfl
    refine ⟨fun _ _ => hS, ?_⟩
    intro a hA
    refine a1 hA 4 31 rfl (lo_buildV (vs := [(.func (.func 61) #[] #[(.pointer (some ⟨b_t2, 0, none⟩)), (.pointer (some ⟨b_t6, 0, none⟩))]), (.func (.func 69) #[] #[(.pointer (some ⟨b_p2, 0, none⟩)), (.pointer (some ⟨b_q2, 0, none⟩))])]) hH Tryd.underlying104 ti84 rfl rfl rfl (by decide) (by decide) (ones_cons rfl (ones_cons rfl ones_nil))) ?_
    clear hH; rintro v_t69 w ⟨N_t69, hO_t69, hH⟩
    replace hS := hH.pick [3, 4, 6, 7, 8, 9, 10] (Hs' := [_, _, _, _, _, _, _]) rfl
    refine ⟨fun _ _ => hS, ?_⟩
    intro a hA
    replace hH := hH.pick [11, 5, 0, 10, 3, 1, 2, 4, 6, 7, 8, 9] (Hs' := [_, _, _, _, _, _, _, _, _, _, _, _]) rfl
    refine a1 hA 5 63 rfl (lo_call fn43 rfl (allR (hg.mono hH hgM) b_v b_t g x rq T N hT hB v_t69 N_t69 b_t2 b_t6 b_p2 b_q2 (jgood l) (by rw [hnow]; exact jgood_le l) hO_t69 (Gl.ngs (Ns1 := [_, _, _, _, _, _, _]) hg hgM hH) (HS.handed (Ns1 := [_, _, _, _, _, _, _]) hH))) ?_
    rintro _ w ⟨N', rfl, hT', hC⟩
    replace hH := HS.call (Ns1 := [_, _, _, _, _, _, _]) hH hC
    clear hC
    replace hS := hH.pick [4, 7, 8, 9, 10, 11, 3] (Hs' := [_, _, _, _, _, _, _]) rfl
    refine ⟨fun _ _ => hS, ?_⟩
    intro a hA
    refine p0 hA 6 127 rfl (fun w => (q_assign rfl)) fun a hA => ?_
    refine a_end (by kernel_rfl) ?_ _
    refine hK18 _ _ ?_
    clear hK18
    replace hA := hA.s1 4
    refine wp_ret ?_
    refine post_ret hA (res_1 rfl hA rfl) ?_
    replace hH := hH.pick [0, 1, 8, 9, 2, 3, 4, 5, 6, 7, 10, 11] (Hs' := [_, _, _, _, _, _, _, _, _, _, _, _]) rfl
    replace hH := hH.pick [0, 1, 2, 3] (Hs' := [_, _, _, _]) rfl
    rw [hm]; exact ⟨_, rfl, N', rq, N_o, N_od, rfl, hT', hRj, hH⟩
  ·skip
   rw [hb] at hA
   refine asg hA fun a hA => ?_
   refine asg hA fun a hA => ?_
   refine asg hA fun a hA => ?_
   refine wpList_nil ?_
   refine hK11 _ _ ?_
   clear hK11
   refine wp_seq_k fun K19 hK19 => ?_
   refine wp_seq_k fun K20 hK20 => ?_
   refine wp_region_lit ?_
   refine mv hA fun a hA => ?_
   refine sq hA (q_not rfl) rfl fun a hA => ?_
   refine wpList_nil ?_
   refine hK20 _ _ ?_
   clear hK20
   refine cond_f hA rfl ?_
   refine wp_skip ?_
   refine hK19 _ _ ?_
   clear hK19
   refine wp_seq_k fun K21 hK21 => ?_
   refine wp_seq_k fun K22 hK22 => ?_
   refine wp_region_lit ?_
   refine mv hA fun a hA => ?_
   refine sq hA (q_loadB hH 6 rfl (List.mem_singleton.2 rfl) Tryd.underlying27 rfl rfl rfl) rfl fun a hA => ?_
   refine sq hA (q_nilCheck rfl) rfl fun a hA => ?_
   refine sq hA (q_fld 1 Tryd.underlying68 rfl rfl ti3 rfl) rfl fun a hA => ?_
   refine sq hA (q_loadB hH 1 rfl (List.mem_singleton.2 rfl) Tryd.underlying3 rfl rfl rfl) rfl fun a hA => ?_
   refine sq hA (q_eqlI rfl rfl) rfl fun a hA => ?_
   refine wpList_nil ?_
   refine hK22 _ _ ?_
   clear hK22
   refine cond_d hA rfl (fun hc40 => ?_) (fun hc40 => ?_)
   ·skip
    refine any_goI mixed [1, 4, 5, 6, 7, 8] (Hs' := [_, _, _, _, _, _]) rfl (fun j => !(Nat.beq j 10)) hH ?_
    clear hH; intro w hH hS
    refine any_l 11 ?_
    refine r0 hA 0 1 rfl hS (fun w hH => (q_loadB hH 3 rfl (List.mem_singleton.2 rfl) Tryd.underlying27 rfl rfl rfl)) fun a hA => ?_
    refine r0 hA 1 3 rfl hS (fun w hH => (q_loadB hH 3 rfl (List.mem_singleton.2 rfl) Tryd.underlying27 rfl rfl rfl)) fun a hA => ?_
    refine p0 hA 2 7 rfl (fun w => (q_nilCheck rfl)) fun a hA => ?_
    refine p0 hA 3 15 rfl (fun w => (q_fld 3 Tryd.underlying68 rfl rfl ti33 rfl)) fun a hA => ?_
    refine r0 hA 4 31 rfl hS (fun w hH => (q_loadB hH 0 rfl (List.mem_singleton.2 rfl) Tryd.underlying33 rfl rfl rfl)) fun a hA => ?_
    refine p0 hA 5 63 rfl (fun w => (q_move rfl)) fun a hA => ?_
    refine a1 hA 6 127 rfl (lo_build1 hH Tryd.underlying33 ti32 rfl rfl (Own.one hO_t28)) ?_
    clear hH; rintro v_t47 w ⟨N_t47, hO_t47, hH⟩
    replace hS := hH.pick [2, 5, 6, 7, 8, 9] (Hs' := [_, _, _, _, _, _]) rfl
    refine ⟨fun _ _ => hS, ?_⟩
    intro a hA
    replace hH := hH.pick [3, 0, 1, 2, 4, 5, 6, 7, 8, 9] (Hs' := [_, _, _, _, _, _, _, _, _, _]) rfl
    obtain ⟨vs_t48, hvl_t48, hvo_t48, hvr_t48⟩ := hR'
    refine a1 hA 7 255 rfl (lo_append hH Tryd.underlying33 Tryd.underlying33 (.inl rfl) ti32 rfl rfl rfl hvo_t48 (Rd.src (Own.rd0 hO_t47 hH 1 rfl)) (by intro u hu; rw [List.mem_singleton.1 hu]; exact Own.one hO_t28) (by have hjl := jrk_len g (recs.take k); rw [List.length_take] at hjl; omega) (by have hjl := jrk_len g (recs.take k); rw [List.length_take] at hjl; omega)) ?_
    clear hH; rintro v_t48 w ⟨N_t48, hO_t48, hH⟩
    replace hH := HS.join (hH.pick [2, 4, 0, 1, 3, 5, 6, 7, 8, 9] (Hs' := [_, _, _, _, _, _, _, _, _, _]) rfl)
    obtain ⟨N_dt48, hN_dt48, hR_t48⟩ : ∃ N, N = _ ∧ RowsH 32 v_t48 _ N_t48 N := ⟨_, rfl, RowsH.snoc hvl_t48 hO_t48 hvr_t48 (Own.rdh hO_t28)⟩
    rw [← hN_dt48] at hH
    replace hS := hH.pick [3, 4, 5, 6, 7, 8] (Hs' := [_, _, _, _, _, _]) rfl
    refine ⟨fun _ _ => hS, ?_⟩
    intro a hA
    refine p0 hA 8 511 rfl (fun w => (q_nilCheck rfl)) fun a hA => ?_
    refine p0 hA 9 1023 rfl (fun w => (q_fld 3 Tryd.underlying68 rfl rfl ti33 rfl)) fun a hA => ?_
    replace hH := hH.pick [3, 0, 1, 2, 4, 5, 6, 7, 8] (Hs' := [_, _, _, _, _, _, _, _, _]) rfl
    refine a0n hA 10 2047 rfl (lo_store1 hH ti33 rfl rfl ((show 3 < 5 by decide)) (RowsH.one hR_t48)) ?_
    clear hH; rintro _ w hH
    rw [vC_recs] at hH
    refine a_end (by kernel_rfl) ?_ _
    refine hK21 _ _ ?_
    clear hK21
    refine wp_seq_k fun K23 hK23 => ?_
    refine wp_region_lit ?_
    refine mv hA fun a hA => ?_
    refine sl hA (lo_call fn60 rfl (wrap_any (hg.mono hH hgM) _ _ ((hvr_t25 (k) (by first | omega | (simp; done) | (simp; omega) | (rw [List.length_map]; assumption) | assumption | rfl | (simp [*]; done) | (simp [*]; omega))) [] _ (RO.of hH 5 rfl)) (by omega))) rfl ?_
    rintro _ w ⟨v_t53, N_t53, rfl, hO_t53, hC⟩ a hA
    replace hH := HS.call0 hH hC
    clear hC
    rw [wrapV_ok (by omega)] at hO_t53
    replace hO_t53 : Ow B8 5 v_t53 (wf (recs.getD k [])) N_t53 := hO_t53
    refine mv hA fun a hA => ?_
    refine sq hA (q_extract rfl rfl) rfl fun a hA => ?_
    refine sq hA (q_extract rfl rfl) rfl fun a hA => ?_
    refine asg hA fun a hA => ?_
    refine asg hA fun a hA => ?_
    refine wpList_nil ?_
    refine hK23 _ _ ?_
    clear hK23
    replace hA := hA.sub (E' := [(13, _), (55, _), (54, _), (51, _), (53, _), (52, _), (50, _), (49, _), (48, _), (47, _), (46, _), (45, _), (44, _), (43, _), (42, _), (41, _), (40, _), (39, _), (38, _), (37, _), (36, _), (35, _), (33, _), (32, _), (12, _), (11, _), (10, _), (31, _), (30, _), (29, _), (26, _), (28, _), (27, _), (9, _), (25, _), (24, _), (23, _), (22, _), (21, _), (20, _), (7, _), (6, _), (4, _), (2, _), (1, _)]) ⟨rfl, rfl, rfl, rfl, rfl, rfl, rfl, rfl, rfl, rfl, rfl, rfl, rfl, rfl, rfl, rfl, rfl, rfl, rfl, rfl, rfl, rfl, rfl, rfl, rfl, rfl, rfl, rfl, rfl, rfl, rfl, rfl, rfl, rfl, rfl, rfl, rfl, rfl, rfl, rfl, rfl, rfl, rfl, rfl, rfl, trivial⟩
    refine wp_region_lit ?_
    refine mv hA fun a hA => ?_
    refine mv hA fun a hA => ?_
    refine sq hA (q_len Tryd.underlying32 rfl (Own.shp hO_t53)) rfl fun a hA => ?_
    refine sq hA (q_addI rfl rfl (by omega)) rfl fun a hA => ?_
    rw [show (((wfs (recs.take k)).length : Nat) : Int) + (((wf (recs.getD k [])).length : Nat) : Int) = (((wfs (recs.take (k + 1))).length : Nat) : Int) by omega] at hA
    refine asg hA fun a hA => ?_
    refine wpList_nil ?_
    refine block_normal ?_
    refine hK9 _ _ ?_
    clear hK9
    refine wp_region_lit ?_
    refine sq hA (q_addI (n := 1) rfl rfl (by omega)) rfl fun a hA => ?_
    refine mv hA fun a hA => ?_
    refine wpList_nil ?_
    replace hH := hH.pick [1, 3, 2, 5, 6, 7, 8, 9, 0, 4] (Hs' := [_, _, _, _, _, _, _, _, _, _]) rfl
    replace hH := hH.pick [0, 1, 2, 3, 4, 5, 6, 7] (Hs' := [_, _, _, _, _, _, _, _]) rfl
    exact ⟨_, by omega, k + 1, v_t48, N_t48, N_dt48, hA.sub ⟨rfl, rfl, rfl, rfl, rfl, rfl, rfl, rfl, trivial⟩, hH, by omega, by first | (rw [jrk_yes (by omega) (by omega)]; exact hR_t48) | (rw [jrk_no (by omega) (by omega)]; exact hR'), by exact ok_snoc (by omega) hokk hb, rfl⟩
   ·skip
    refine wp_skip ?_
    refine hK21 _ _ ?_
    clear hK21
    refine wp_seq_k fun K24 hK24 => ?_
    refine wp_region_lit ?_
    refine mv hA fun a hA => ?_
    refine sl hA (lo_call fn60 rfl (wrap_any (hg.mono hH hgM) _ _ ((hvr_t25 (k) (by first | omega | (simp; done) | (simp; omega) | (rw [List.length_map]; assumption) | assumption | rfl | (simp [*]; done) | (simp [*]; omega))) [] _ (RO.of hH 5 rfl)) (by omega))) rfl ?_
    rintro _ w ⟨v_t53, N_t53, rfl, hO_t53, hC⟩ a hA
    replace hH := HS.call0 hH hC
    clear hC
    rw [wrapV_ok (by omega)] at hO_t53
    replace hO_t53 : Ow B8 5 v_t53 (wf (recs.getD k [])) N_t53 := hO_t53
    refine mv hA fun a hA => ?_
    refine sq hA (q_extract rfl rfl) rfl fun a hA => ?_
    refine sq hA (q_extract rfl rfl) rfl fun a hA => ?_
    refine asg hA fun a hA => ?_
    refine asg hA fun a hA => ?_
    refine wpList_nil ?_
    refine hK24 _ _ ?_
    clear hK24
    replace hA := hA.sub (E' := [(13, _), (55, _), (54, _), (51, _), (53, _), (52, _), (40, _), (39, _), (38, _), (37, _), (36, _), (35, _), (33, _), (32, _), (12, _), (11, _), (10, _), (31, _), (30, _), (29, _), (26, _), (28, _), (27, _), (9, _), (25, _), (24, _), (23, _), (22, _), (21, _), (20, _), (7, _), (6, _), (4, _), (2, _), (1, _)]) ⟨rfl, rfl, rfl, rfl, rfl, rfl, rfl, rfl, rfl, rfl, rfl, rfl, rfl, rfl, rfl, rfl, rfl, rfl, rfl, rfl, rfl, rfl, rfl, rfl, rfl, rfl, rfl, rfl, rfl, rfl, rfl, rfl, rfl, rfl, rfl, trivial⟩
    refine wp_region_lit ?_
    refine mv hA fun a hA => ?_
    refine mv hA fun a hA => ?_
    refine sq hA (q_len Tryd.underlying32 rfl (Own.shp hO_t53)) rfl fun a hA => ?_
    refine sq hA (q_addI rfl rfl (by omega)) rfl fun a hA => ?_
    rw [show (((wfs (recs.take k)).length : Nat) : Int) + (((wf (recs.getD k [])).length : Nat) : Int) = (((wfs (recs.take (k + 1))).length : Nat) : Int) by omega] at hA
    refine asg hA fun a hA => ?_
    refine wpList_nil ?_
    refine block_normal ?_
    refine hK9 _ _ ?_
    clear hK9
    refine wp_region_lit ?_
    refine sq hA (q_addI (n := 1) rfl rfl (by omega)) rfl fun a hA => ?_
    refine mv hA fun a hA => ?_
    refine wpList_nil ?_
    replace hH := hH.pick [2, 3, 4, 5, 6, 7, 8, 9, 0, 1] (Hs' := [_, _, _, _, _, _, _, _, _, _]) rfl
    replace hH := hH.pick [0, 1, 2, 3, 4, 5, 6, 7] (Hs' := [_, _, _, _, _, _, _, _]) rfl
    exact ⟨_, by omega, k + 1, rq, N_o, N_od, hA.sub ⟨rfl, rfl, rfl, rfl, rfl, rfl, rfl, rfl, trivial⟩, hH, by omega, by first | (rw [jrk_yes (by omega) (by omega)]; exact hR_t48) | (rw [jrk_no (by omega) (by omega)]; exact hR'), by exact ok_snoc (by omega) hokk hb, rfl⟩
 ·skip
  obtain rfl : k = recs.length := by omega
  rw [List.take_length] at hR' hokk
  have hj : jok l = recs := by rw [jok, ← hrecs]; exact takeWhile_all hokk
  have hjg : jgood l = (scanV l).2 := by show (wfs (jok l)).length = _; rw [hj, hS3]
  have hRj : RowsH 32 rq (jrecs g l) N_o N_od := by show RowsH _ _ (jrk g (jok l)) _ _; rw [hj]; exact hR'
  refine wp_exit ?_
  refine then_exit ?_
  replace hH := HS.unfold [_, _, _, _, _, _, _] hNR6 hH
  refine then_exit ?_
  refine exit_here ?_
  refine hK4 _ _ ?_
  clear hK4
  replace hA := hA.s4 6 4 2 1
  refine wp_seq_k fun K25 hK25 => ?_
  refine wp_seq_k fun K26 hK26 => ?_
  refine wp_region_lit ?_
  refine sq hA (q_loadB hH 6 rfl (List.mem_singleton.2 rfl) Tryd.underlying3 rfl rfl rfl) rfl fun a hA => ?_
  rw [← hjg] at hA hH
  refine mv hA fun a hA => ?_
  refine sq hA (q_len Tryd.underlying32 rfl (Rd.shp hu)) rfl fun a hA => ?_
  refine sq hA (q_eqlI rfl rfl) rfl fun a hA => ?_
  refine wpList_nil ?_
  refine hK26 _ _ ?_
  clear hK26
  replace hA := hA.s4 64 6 4 2
  refine cond_d hA rfl (fun hc64 => ?_) (fun hc64 => ?_)
  ·skip
   have hm : mend T = (0, T) := by rw [mend, hnow, if_pos (by omega)]
   refine wp_seq_k fun K27 hK27 => ?_
   refine wp_region_lit ?_
   refine asg hA fun a hA => ?_
   refine wpList_nil ?_
   refine hK27 _ _ ?_
   clear hK27
   replace hA := hA.s3 4 6 2
   refine wp_ret ?_
   refine then_ret ?_
   refine post_ret hA (res_1 rfl hA rfl) ?_
   replace hH := hH.pick [7, 0, 1, 2, 3, 4, 5, 6] (Hs' := [_, _, _, _, _, _, _, _]) rfl
   replace hH := hH.pick [0, 1, 2, 3] (Hs' := [_, _, _, _]) rfl
   rw [hm]; exact ⟨_, rfl, N, rq, N_o, N_od, rfl, hT, hRj, hH⟩
  ·skip
   have hm : mend T = mendS (jgood l) T := by rw [mend, hnow, if_neg (by omega)]; rfl
   refine wp_skip ?_
   refine hK25 _ _ ?_
   clear hK25
   replace hA := hA.s3 6 4 2
   refine wp_seq_k fun K28 hK28 => ?_
   refine any_goI mixed [1, 2, 3, 4, 5, 6] (Hs' := [_, _, _, _, _, _]) rfl (fun _ => true) hH ?_
   clear hH; intro w hH hS
   refine any_l 7 ?_
   refine r0 hA 0 1 rfl hS (fun w hH => (q_loadB hH 4 rfl (List.mem_singleton.2 rfl) Tryd.underlying27 rfl rfl rfl)) fun a hA => ?_
   refine p0 hA 1 3 rfl (fun w => (q_makeFunc rfl rfl)) fun a hA => ?_
   refine r0 hA 2 7 rfl hS (fun w hH => (q_loadB hH 4 rfl (List.mem_singleton.2 rfl) Tryd.underlying27 rfl rfl rfl)) fun a hA => ?_
   refine a1 hA 3 15 rfl (lo_call fn46 rfl (syncm_any b_v 0)) ?_
   rintro _ w ⟨b_p2, b_q2, rfl, hC⟩
   replace hH := HS.call0 hH hC
   clear hC
   replace hS := hH.pick [3, 4, 5, 6, 7, 8] (Hs' := [_, _, _, _, _, _]) rfl
   refine ⟨fun _ _ => hS, ?_⟩
   intro a hA
   refine a1 hA 4 31 rfl (lo_buildV (vs := [(.func (.func 61) #[] #[(.pointer (some ⟨b_t2, 0, none⟩)), (.pointer (some ⟨b_t6, 0, none⟩))]), (.func (.func 69) #[] #[(.pointer (some ⟨b_p2, 0, none⟩)), (.pointer (some ⟨b_q2, 0, none⟩))])]) hH Tryd.underlying104 ti84 rfl rfl rfl (by decide) (by decide) (ones_cons rfl (ones_cons rfl ones_nil))) ?_
   clear hH; rintro v_t69 w ⟨N_t69, hO_t69, hH⟩
   replace hS := hH.pick [4, 5, 6, 7, 8, 9] (Hs' := [_, _, _, _, _, _]) rfl
   refine ⟨fun _ _ => hS, ?_⟩
   intro a hA
   replace hH := hH.pick [10, 3, 0, 8, 9, 1, 2, 4, 5, 6, 7] (Hs' := [_, _, _, _, _, _, _, _, _, _, _]) rfl
   refine a1 hA 5 63 rfl (lo_call fn43 rfl (allR (hg.mono hH hgM) b_v b_t g x rq T N hT hB v_t69 N_t69 b_t2 b_t6 b_p2 b_q2 (jgood l) (by rw [hnow]; exact jgood_le l) hO_t69 (Gl.ngs (Ns1 := [_, _, _, _, _, _, _]) hg hgM hH) (HS.handed (Ns1 := [_, _, _, _, _, _, _]) hH))) ?_
   rintro _ w ⟨N', rfl, hT', hC⟩
   replace hH := HS.call (Ns1 := [_, _, _, _, _, _, _]) hH hC
   clear hC
   replace hS := hH.pick [7, 8, 9, 10, 3, 4] (Hs' := [_, _, _, _, _, _]) rfl
   refine ⟨fun _ _ => hS, ?_⟩
   intro a hA
   refine p0 hA 6 127 rfl (fun w => (q_assign rfl)) fun a hA => ?_
   refine a_end (by kernel_rfl) ?_ _
   refine hK28 _ _ ?_
   clear hK28
   replace hA := hA.s1 4
   refine wp_ret ?_
   refine post_ret hA (res_1 rfl hA rfl) ?_
   replace hH := hH.pick [0, 1, 7, 8, 2, 3, 4, 5, 6, 9, 10] (Hs' := [_, _, _, _, _, _, _, _, _, _, _]) rfl
   replace hH := hH.pick [0, 1, 2, 3] (Hs' := [_, _, _, _]) rfl
   rw [hm]; exact ⟨_, rfl, N', rq, N_o, N_od, rfl, hT', hRj, hH⟩

end Go.Proofs.YthhdilafnfcpbaaDoor
