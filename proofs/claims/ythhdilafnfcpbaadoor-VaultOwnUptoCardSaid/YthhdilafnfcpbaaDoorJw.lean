/- Layer 12 (vault): the law VaultOwn. -/
import Derived.Test.YthhdilafnfcpbaaDoorJr
import Derived.Test.YthhdilafnfcpbaaDoorVz
namespace Go.Proofs.YthhdilafnfcpbaaDoor
open Go
set_option linter.unusedVariables false
set_option linter.unusedSimpArgs false
set_option maxRecDepth 100000

theorem recs_fo {w0 : World} (b_v b_t g : Nat) (x rr : Value) (recs : List Bs) (N_o N_od : Hl) (hR_r : RowsH 32 rr recs N_o N_od) (hrl : ∀ y ∈ recs, y.length ≤ 262144) (hrn : recs.length ≤ 1048576) (hH : HS (doms [[(b_v, Obj.cells (vC b_t g x rr false).toArray 68 (0, 0))], N_o, N_od]) w0 w0 [[(b_v, Obj.cells (vC b_t g x rr false).toArray 68 (0, 0))], N_o, N_od]) :
    Calls Tryd.prog 23 #[(.pointer (some ⟨b_v, 0, none⟩))] w0 (Ret fun r w' => ∃ v' N1 N2, v' = r ∧ RowsO 32 5 v' recs N1 N2 ∧ HS (doms [[(b_v, Obj.cells (vC b_t g x rr false).toArray 68 (0, 0))], N_o, N_od]) w0 w' [[(b_v, Obj.cells (vC b_t g x rr false).toArray 68 (0, 0))], N_o, N_od, N1, N2]) := by
 refine start (n := 25) (E := [(0, _)]) Tryd.func23 rfl rfl rfl (args_look rfl) ?_
 intro a hA
 refine wp_seq_k fun K1 hK1 => ?_
 refine wp_region_lit ?_
 refine asg hA fun a hA => ?_
 refine wpList_nil ?_
 refine hK1 _ _ ?_
 clear hK1
 refine wp_seq_k fun K2 hK2 => ?_
 refine wp_seq_k fun K3 hK3 => ?_
 refine wp_region_lit ?_
 refine mv hA fun a hA => ?_
 refine sl hA (lo_call fn42 rfl (off_f b_v b_t _ _ _ (HS.handed (Ns1 := [_]) hH))) rfl ?_
 rintro _ w ⟨rfl, hC⟩ a hA
 replace hH := HS.call (Ns1 := [_]) hH hC
 clear hC
 refine sq hA (q_neqI (n := 0) rfl rfl) rfl fun a hA => ?_
 refine wpList_nil ?_
 refine hK3 _ _ ?_
 clear hK3
 replace hA := hA.s3 8 2 0
 refine cond_d hA rfl (fun hnn => absurd hnn ((fun h => h rfl))) (fun _ => ?_)
 refine wp_skip ?_
 refine hK2 _ _ ?_
 clear hK2
 replace hA := hA.s2 2 0
 refine wp_seq_k fun K4 hK4 => ?_
 refine wp_region_lit ?_
 refine asg hA fun a hA => ?_
 refine wpList_nil ?_
 refine hK4 _ _ ?_
 clear hK4
 refine wp_seq_k fun K5 hK5 => ?_
 refine wp_seq_k fun K6 hK6 => ?_
 refine wp_region_lit ?_
 refine mv hA fun a hA => ?_
 refine sq hA (q_nilCheck rfl) rfl fun a hA => ?_
 refine sq hA (q_fld 3 Tryd.underlying68 rfl rfl ti33 rfl) rfl fun a hA => ?_
 refine sq hA (q_loadB hH 0 rfl (List.mem_singleton.2 rfl) Tryd.underlying33 rfl rfl rfl) rfl fun a hA => ?_
 refine sq hA (q_len Tryd.underlying33 rfl (RowsH.shp hR_r)) rfl fun a hA => ?_
 refine mv hA fun a hA => ?_
 refine wpList_nil ?_
 refine hK6 _ _ ?_
 clear hK6
 replace hA := hA.s5 14 13 12 3 2
 refine wp_block ?_
 replace hH := hH.nilFront
 replace hH := hH.nilFront
 replace hH := hH.pick [0, 1, 3, 4, 2] (Hs' := [_, _, _, _, _]) rfl
 replace hH := HS.fold [_, _, _, _] [_] hH
 obtain ⟨NR7, hNR7, hH⟩ := hH
 refine wp_loop_ghost (fun gm a w => ∃ i : Nat, ∃ v_q : Value, ∃ N_q : Hl, ∃ N_qd : Hl, At 25 [(14, I i), (13, I (recs.length : Int)), (12, rr), (3, v_q), (2, (.slice none 0 0))] a ∧ HS (doms [[(b_v, Obj.cells (vC b_t g x rr false).toArray 68 (0, 0))], N_o, N_od]) w0 w ([N_q, N_qd, N_o, N_od, NR7]) ∧ (i ≤ recs.length) ∧ (RowsO 32 5 v_q (recs.take i) N_q N_qd) ∧ gm = recs.length - i) (recs.length - (0)) ⟨0, nilV, [], [], hA.sub ⟨rfl, rfl, rfl, rfl, rfl, trivial⟩, hH, by omega, by exact RowsO.nil _ _, rfl⟩ ?_
 clear hA hH
 rintro gm a w ⟨i, v_q, N_q, N_qd, hA, hH, hi, hQ_q, rfl⟩
 refine wp_seq_k fun K8 hK8 => ?_
 refine wp_region_lit ?_
 refine sq hA (q_lssI rfl rfl) rfl fun a hA => ?_
 have hyl : (recs.getD i []).length ≤ 262144 := by by_cases h : i < recs.length; exact hrl _ (getD_mem h); simp [List.getD, show recs[i]? = none from List.getElem?_eq_none (by omega)]
 refine wpList_nil ?_
 refine hK8 _ _ ?_
 clear hK8
 refine wp_seq_k fun K9 hK9 => ?_
 refine cond_d hA rfl (fun hc15 => ?_) (fun hc15 => ?_)
 ·skip
  refine wp_skip ?_
  refine hK9 _ _ ?_
  clear hK9
  refine wp_seq_k fun K10 hK10 => ?_
  refine wp_block ?_
  refine wp_seq_k fun K11 hK11 => ?_
  refine wp_region_lit ?_
  refine sq hA (q_idx1 (i) Tryd.underlying33 ti32 rfl rfl (by first | omega | rfl) (RowsH.shp hR_r) (by first | omega | (simp; done) | (simp; omega) | (rw [List.length_map]; assumption) | assumption | rfl | (simp [*]; done) | (simp [*]; omega))) rfl fun a hA => ?_
  have hx_t17 := hR_r
  obtain ⟨vs_t17, hvl_t17, hvo_t17, hvr_t17⟩ := hx_t17
  refine sq hA (q_loadR Tryd.underlying32 rfl rfl (Own.rd0 hvo_t17 hH 2 rfl) (by first | omega | (simp; done) | (simp; omega) | (rw [List.length_map]; assumption) | assumption | rfl | (simp [*]; done) | (simp [*]; omega)) (getD_some' vs_t17 nilV (by first | omega | (simp; done) | (simp; omega) | (rw [List.length_map]; assumption) | assumption | rfl | (simp [*]; done) | (simp [*]; omega)))) rfl fun a hA => ?_
  refine asg hA fun a hA => ?_
  refine wpList_nil ?_
  refine hK11 _ _ ?_
  clear hK11
  refine wp_region_lit ?_
  refine mv hA fun a hA => ?_
  refine mv hA fun a hA => ?_
  refine sl hA (lo_call fn47 rfl (own12_any _ _ ((hvr_t17 (i) (by first | omega | (simp; done) | (simp; omega) | (rw [List.length_map]; assumption) | assumption | rfl | (simp [*]; done) | (simp [*]; omega))) [] _ (RO.of hH 3 rfl)) (by first | omega | (simp; done) | (simp; omega)))) rfl ?_
  rintro _ w ⟨v_t20, N_t20, rfl, hO_t20, hC⟩ a hA
  replace hH := HS.call0 hH hC
  clear hC
  refine sl hA (lo_build1 hH Tryd.underlying33 ti32 rfl rfl (Own.one hO_t20)) rfl ?_
  clear hH; rintro v_t21 w ⟨N_t21, hO_t21, hH⟩ a hA
  replace hH := hH.pick [2, 0, 1, 3, 4, 5, 6] (Hs' := [_, _, _, _, _, _, _]) rfl
  obtain ⟨vs_t22, hvl_t22, hvo_t22, hva_t22⟩ := hQ_q
  refine sl hA (lo_append hH Tryd.underlying33 Tryd.underlying33 (.inl rfl) ti32 rfl rfl rfl hvo_t22 (Rd.src (Own.rd0 hO_t21 hH 1 rfl)) (by intro u hu; rw [List.mem_singleton.1 hu]; exact Own.one hO_t20) (by first | omega | (simp; done) | (simp; omega)) (by first | omega | (simp; done) | (simp; omega))) rfl ?_
  clear hH; rintro v_t22 w ⟨N_t22, hO_t22, hH⟩ a hA
  replace hH := HS.join (hH.pick [3, 2, 0, 1, 4, 5, 6] (Hs' := [_, _, _, _, _, _, _]) rfl)
  obtain ⟨N_dt22, hN_dt22, hQ_t22⟩ : ∃ N, N = _ ∧ RowsO 32 5 v_t22 _ N_t22 N := ⟨_, rfl, RowsO.snoc hvl_t22 hO_t22 hva_t22 hO_t20⟩
  rw [← hN_dt22] at hH
  refine asg hA fun a hA => ?_
  refine wpList_nil ?_
  refine block_normal ?_
  refine hK10 _ _ ?_
  clear hK10
  refine wp_region_lit ?_
  refine sq hA (q_addI (n := 1) rfl rfl (by omega)) rfl fun a hA => ?_
  refine mv hA fun a hA => ?_
  refine wpList_nil ?_
  replace hH := hH.pick [1, 0, 3, 4, 5, 2] (Hs' := [_, _, _, _, _, _]) rfl
  replace hH := hH.pick [0, 1, 2, 3, 4] (Hs' := [_, _, _, _, _]) rfl
  exact ⟨_, by omega, i + 1, v_t22, N_t22, N_dt22, hA.sub ⟨rfl, rfl, rfl, rfl, rfl, trivial⟩, hH, by omega, by (rw [take_snoc (d := []) recs (by omega)]; exact hQ_t22), rfl⟩
 ·skip
  obtain rfl : i = recs.length := by omega
  rw [List.take_length] at hQ_q
  refine wp_exit ?_
  refine then_exit ?_
  replace hH := HS.unfold [_, _, _, _] hNR7 hH
  refine then_exit ?_
  refine exit_here ?_
  refine hK5 _ _ ?_
  clear hK5
  replace hA := hA.s2 3 2
  refine wp_seq_k fun K12 hK12 => ?_
  refine wp_region_lit ?_
  refine mv hA fun a hA => ?_
  refine asg hA fun a hA => ?_
  refine wpList_nil ?_
  refine hK12 _ _ ?_
  clear hK12
  replace hA := hA.s1 2
  refine wp_ret ?_
  refine post_ret hA (res_1 rfl hA rfl) ?_
  replace hH := hH.pick [4, 2, 3, 0, 1] (Hs' := [_, _, _, _, _]) rfl
  exact ⟨_, rfl, v_q, N_q, N_qd, rfl, hQ_q, hH⟩

theorem recs_ovm {w0 : World} (b_v b_t : Nat) (V : Vs) (Nv : Hl) (hVM : VM 5 32 68 b_v b_t V Nv) (hO : VOk V) (hH : HS (doms [Nv]) w0 w0 [Nv]) :
    Calls Tryd.prog 23 #[(.pointer (some ⟨b_v, 0, none⟩))] w0 (Ret fun r w' => ∃ v' N1 N2 Nv', v' = r ∧ RowsO 32 5 v' (recsO V) N1 N2 ∧ VM 5 32 68 b_v b_t V Nv' ∧ HS (doms [Nv]) w0 w' [Nv', N1, N2]) := by
  obtain ⟨x, rr, Nx, No, Nd, rfl, hx, hR⟩ := hVM
  have h4 := (vsplit (hH.nilFront)).pick [1, 2, 3, 4, 0] (Hs' := [_, No, Nd, Nx, []]) rfl
  have htl := hO.tl
  have hrn := hO.rn
  rcases hd : V.down with _ | _
  · rw [hd] at h4
    refine (recs_fo b_v b_t V.gen x rr V.recs No Nd hR hO.rl (by omega) (HS.handed (Ns1 := [_, _, _]) h4)).mono fun e w' hr => ?_
    obtain ⟨r, h1, v', N1, N2, h2, hO1, hC⟩ := hr
    have h7 := (HS.call (Ns1 := [_, _, _]) h4 hC).pick [3, 4, 0, 1, 2, 5] (Hs' := [N1, N2, _, No, Nd, Nx]) rfl
    have h8 := (h7.join.pick [0, 1, 2, 3, 4] (Hs' := [N1 ++ N2, _, No, Nd, Nx]) rfl)
    have h9 := (vjoin h8).split.pick [2, 0, 1] (Hs' := [_, N1, N2]) rfl
    exact ⟨r, h1, v', N1, N2, _, h2, by rw [(outs_f hd).2.2]; exact hO1, ⟨x, rr, Nx, No, Nd, by rw [hd], hx, hR⟩, h9⟩
  · rw [hd] at h4
    refine (recs_t b_v b_t V.gen x rr (HS.handed (Ns1 := [_]) h4)).mono fun e w' hr => ?_
    obtain ⟨r, h1, h2, hC⟩ := hr
    have h7 := HS.call (Ns1 := [_]) h4 hC
    exact ⟨r, h1, nilV, [], [], _, h2.symm, by rw [(outs_t hd).2.2]; exact RowsO.nil _ _, ⟨x, rr, Nx, No, Nd, by rw [hd], hx, hR⟩, ((vjoin (h7.pick [4, 0, 1, 2, 3] (Hs' := [_, _, _, _, _]) rfl)).pick [1] (Hs' := [_]) rfl).nilFront.nilFront.pick [2, 0, 1] (Hs' := [_, _, _]) rfl⟩
set_option maxHeartbeats 2000000 in
theorem vaultOwn_any {w0 : World} {lv : Nat} (hg : Gl lv w0) (v : Value) (cl : List CallE) (hcr : RdCl [] w0 v cl) (hcn : cl.length ≤ 1048576) :
    Calls Tryd.prog 6 #[v] w0 (Ret fun r w' => r = .bool true ∧ HS [] w0 w' []) := by
 have hH := HS.start w0
 refine start (n := 124) (E := [(0, _)]) Tryd.func6 rfl rfl rfl (args_look rfl) ?_
 intro a hA
 refine wp_seq_k fun K1 hK1 => ?_
 refine wp_region_lit ?_
 refine asg hA fun a hA => ?_
 refine wpList_nil ?_
 refine hK1 _ _ ?_
 clear hK1
 refine wp_seq_k fun K2 hK2 => ?_
 refine wp_seq_k fun K3 hK3 => ?_
 refine wp_region_lit ?_
 refine mv hA fun a hA => ?_
 refine sl hA (lo_call fn10 rfl (long12_any _ _ (hH.rdCl hcr) (by first | omega | (simp; done) | (simp; omega)))) rfl ?_
 rintro _ w ⟨b_t15, rfl, hb_t15, hC⟩ a hA
 replace hH := HS.call0 hH hC
 clear hC
 refine hA.spl (fun hs15 hA => ?_) (fun hs15 hA => ?_)
 ·skip
  refine wpList_nil ?_
  refine hK3 _ _ ?_
  clear hK3
  replace hA := hA.s3 15 2 0
  refine cond_t hA rfl ?_
  refine wp_seq_k fun K4 hK4 => ?_
  refine wp_region_lit ?_
  refine sl hA (lo_call fn11 rfl (awake12_any (hg.mono0 hH))) rfl ?_
  rintro _ w ⟨rfl, hC⟩ a hA
  replace hH := HS.call0 hH hC
  clear hC
  refine asg hA fun a hA => ?_
  refine wpList_nil ?_
  refine hK4 _ _ ?_
  clear hK4
  replace hA := hA.s2 2 0
  refine wp_ret ?_
  refine then_ret ?_
  refine post_ret hA (res_1 rfl hA rfl) ?_
  exact ⟨_, rfl, rfl, hH⟩
 ·skip
  obtain ⟨hl40, hl5⟩ := hb_t15 (by simpa using hs15)
  refine wpList_nil ?_
  refine hK3 _ _ ?_
  clear hK3
  replace hA := hA.s3 15 2 0
  refine cond_f hA rfl ?_
  refine wp_skip ?_
  refine hK2 _ _ ?_
  clear hK2
  replace hA := hA.s2 2 0
  refine wp_seq_k fun K5 hK5 => ?_
  refine wp_region_lit ?_
  refine sl hA (lo_call fn12 rfl newt_tm) rfl ?_
  rintro _ w ⟨b_t, N_t, rfl, hT, hC⟩ a hA
  replace hH := HS.call0 hH hC
  clear hC
  refine sl hA (lo_call fn13 rfl (open_i (hg.mono0 hH) b_t newT N_t hT newV Inv_new (by decide) (fun i => Nat.zero_le _) (hg.ng NG.nil hH) (HS.handed (Ns1 := [_]) hH))) rfl ?_
  rintro _ w ⟨b_v, N_t, N_v, rfl, hT, hV_v, hC⟩ a hA
  replace hH := HS.call (Ns1 := [_]) hH hC
  clear hC
  refine mv hA fun a hA => ?_
  refine sq hA (q_extract rfl rfl) rfl fun a hA => ?_
  refine sq hA (q_extract rfl rfl) rfl fun a hA => ?_
  refine asg hA fun a hA => ?_
  refine asg hA fun a hA => ?_
  refine wpList_nil ?_
  refine hK5 _ _ ?_
  clear hK5
  replace hA := hA.s4 4 3 2 0
  refine wp_seq_k fun K6 hK6 => ?_
  refine wp_region_lit ?_
  refine sq hA (q_build (v := (.agg ([(I 0), (.slice none 0 0), (.slice none 0 0)]).toArray)) (vs := []) rfl (fun w => by kernel_rfl)) rfl fun a hA => ?_
  refine sl hA (lo_boxA hH rfl) rfl ?_
  clear hH; rintro _ w ⟨b_t23, rfl, hH⟩ a hA
  obtain ⟨b_m, hbm⟩ : ∃ b, b = b_t23 := ⟨_, rfl⟩
  subst hbm
  obtain ⟨N_m, hNm, hM⟩ : ∃ N, N = [(b_m, Obj.cells (mC 0 nilV nilV).toArray 35 (0, 0))] ∧ MM 5 32 35 b_m newV.gen newV.text newV.recs N := ⟨_, rfl, nilV, nilV, [], [], [], rfl, Own.nil _ _, RowsH.nil _⟩
  replace hH : HS _ _ _ ([(b_m, Obj.cells (mC 0 nilV nilV).toArray 35 (0, 0))] :: _) := hH
  rw [← hNm] at hH
  refine asg hA fun a hA => ?_
  refine wpList_nil ?_
  refine hK6 _ _ ?_
  clear hK6
  replace hA := hA.s5 5 4 3 2 0
  refine wp_seq_k fun K7 hK7 => ?_
  refine wp_seq_k fun K8 hK8 => ?_
  refine wp_region_lit ?_
  refine asg hA fun a hA => ?_
  refine wpList_nil ?_
  refine hK8 _ _ ?_
  clear hK8
  refine wp_block ?_
  replace hH := hH.pick [1, 2, 0] (Hs' := [_, _, _]) rfl
  refine wp_loop_ghost (fun gm a w => ∃ i : Nat, ∃ T : Tp, ∃ V : Vs, ∃ N_t : Hl, ∃ N_v : Hl, ∃ N_m : Hl, At 124 [(6, I i), (5, (.pointer (some ⟨b_m, 0, none⟩))), (4, (I 0)), (3, (.pointer (some ⟨b_v, 0, none⟩))), (2, (.bool false)), (0, v)] a ∧ HS [] w0 w ([N_t, N_v, N_m]) ∧ (i ≤ cl.length) ∧ (Inv T V) ∧ (T.fuse < 0) ∧ (Sz T (535 * i)) ∧ (V.gen ≤ i) ∧ (TM 5 76 66 b_t T N_t) ∧ (VM 5 32 68 b_v b_t V N_v) ∧ (MM 5 32 35 b_m V.gen V.text V.recs N_m) ∧ gm = cl.length - i) (cl.length - (0)) ⟨0, newT, newV, N_t, N_v, N_m, hA.sub ⟨rfl, rfl, rfl, rfl, rfl, rfl, trivial⟩, hH, by omega, by exact Inv_new, by decide, by exact fun i => Nat.zero_le _, by exact Nat.zero_le _, by exact hT, by exact hV_v, by exact hM, rfl⟩ ?_
  clear hA hH
  rintro gm a w ⟨i, T, V, N_t, N_v, N_m, hA, hH, hi, hI, hf, hs, hgi, hT, hV_v, hM, rfl⟩
  refine wp_seq_k fun K9 hK9 => ?_
  refine wp_seq_k fun K10 hK10 => ?_
  refine wp_region_lit ?_
  refine mv hA fun a hA => ?_
  refine mv hA fun a hA => ?_
  refine sq hA (q_len Tryd.underlying22 rfl (Rd.shp hcr.1)) rfl fun a hA => ?_
  refine sq hA (q_lssI rfl rfl) rfl fun a hA => ?_
  refine wpList_nil ?_
  refine hK10 _ _ ?_
  clear hK10
  refine cond_d hA rfl (fun hc27 => ?_) (fun hc27 => ?_)
  ·skip
   obtain ⟨e, hem, hei, hE3, hE0, hE1, hE2, he⟩ := hcr.get (i := i) (by omega)
   have he5 := hl5 e hem
   refine wp_skip ?_
   refine hK9 _ _ ?_
   clear hK9
   refine wp_seq_k fun K11 hK11 => ?_
   refine wp_block ?_
   refine wp_seq_k fun K12 hK12 => ?_
   refine wp_region_lit ?_
   refine mv hA fun a hA => ?_
   refine mv hA fun a hA => ?_
   refine sq hA (q_idxk (i) Tryd.underlying22 ti39 rfl rfl (by first | omega | rfl) (Rd.shp hcr.1) (by first | omega | (simp; done) | (simp; omega) | (rw [List.length_map]; assumption) | assumption | rfl | (simp [*]; done) | (simp [*]; omega))) rfl fun a hA => ?_
   refine sq hA (q_fldE 1 Tryd.underlying39 rfl rfl ti32 rfl) rfl fun a hA => ?_
   refine sq hA (q_loadR Tryd.underlying32 rfl rfl (hH.rd hcr.1) (by omega) hE1) rfl fun a hA => ?_
   refine sl hA (lo_call fn18 rfl (lown12_any _ _ (hH.rd he.1) (by first | omega | (simp; done) | (simp; omega)))) rfl ?_
   rintro _ w ⟨v_t35, N_t35, rfl, hO_t35, hC⟩ a hA
   replace hH := HS.call0 hH hC
   clear hC
   refine asg hA fun a hA => ?_
   refine wpList_nil ?_
   refine hK12 _ _ ?_
   clear hK12
   refine wp_seq_k fun K13 hK13 => ?_
   refine wp_seq_k fun K14 hK14 => ?_
   refine wp_region_lit ?_
   refine mv hA fun a hA => ?_
   refine mv hA fun a hA => ?_
   refine sq hA (q_idxk (i) Tryd.underlying22 ti39 rfl rfl (by first | omega | rfl) (Rd.shp hcr.1) (by first | omega | (simp; done) | (simp; omega) | (rw [List.length_map]; assumption) | assumption | rfl | (simp [*]; done) | (simp [*]; omega))) rfl fun a hA => ?_
   refine sq hA (q_fldE 0 Tryd.underlying39 rfl rfl ti3 rfl) rfl fun a hA => ?_
   refine sq hA (q_loadR Tryd.underlying3 rfl rfl (hH.rd hcr.1) (by omega) hE0) rfl fun a hA => ?_
   refine sq hA (q_eqlI (n := 1) rfl rfl) rfl fun a hA => ?_
   refine wpList_nil ?_
   refine hK14 _ _ ?_
   clear hK14
   refine cond_d hA rfl (fun hc41 => ?_) (fun hc41 => ?_)
   ·skip
    refine wp_seq_k fun K15 hK15 => ?_
    refine wp_region_lit ?_
    refine mv hA fun a hA => ?_
    refine mv hA fun a hA => ?_
    replace hH := hH.pick [1, 2, 0, 3] (Hs' := [_, _, _, _]) rfl
    refine sl hA (lo_call fn24 rfl (save_i (hg.mono0 hH) b_v b_t hV_v hT hI hf (Gl.ngs (Ns1 := [_, _]) hg NG.nil hH) _ _ (Own.rdM hO_t35 (Ns1 := [_, _]) hH 0 rfl) (by first | omega | (simp; done) | (simp; omega)) (by omega) (HS.handed (Ns1 := [_, _]) hH))) rfl ?_
    rintro _ w ⟨T1, N_t, N_v, rfl, hI_T1, hf_T1, hs_T1, hz0_T1, hT, hV_v, hC⟩ a hA
    replace hH := HS.call (Ns1 := [_, _]) hH hC
    clear hC
    refine wpList_nil ?_
    refine hK15 _ _ ?_
    clear hK15
    replace hA := hA.sub (E' := [(43, _), (42, _), (41, _), (40, _), (39, _), (38, _), (37, _), (36, _), (7, _), (35, _), (34, _), (33, _), (32, _), (31, _), (30, _), (27, _), (26, _), (25, _), (24, _), (6, _), (5, _), (4, _), (3, _), (2, _), (0, _)]) ⟨rfl, rfl, rfl, rfl, rfl, rfl, rfl, rfl, rfl, rfl, rfl, rfl, rfl, rfl, rfl, rfl, rfl, rfl, rfl, rfl, rfl, rfl, rfl, rfl, rfl, trivial⟩
    refine wp_region_lit ?_
    refine mv hA fun a hA => ?_
    refine mv hA fun a hA => ?_
    refine mv hA fun a hA => ?_
    refine sq hA (q_idxk (i) Tryd.underlying22 ti39 rfl rfl (by first | omega | rfl) (Rd.shp hcr.1) (by first | omega | (simp; done) | (simp; omega) | (rw [List.length_map]; assumption) | assumption | rfl | (simp [*]; done) | (simp [*]; omega))) rfl fun a hA => ?_
    refine sq hA (q_fldE 1 Tryd.underlying39 rfl rfl ti32 rfl) rfl fun a hA => ?_
    refine sq hA (q_loadR Tryd.underlying32 rfl rfl (hH.rd hcr.1) (by omega) hE1) rfl fun a hA => ?_
    replace hH := hH.pick [3, 0, 1, 2] (Hs' := [_, _, _, _]) rfl
    refine sl hA (lo_call fn27 rfl (msave_mm b_m _ _ _ _ hM (by omega) _ _ (HS.rdM (Ns1 := [_]) hH he.1) (by first | omega | (simp; done) | (simp; omega)) (HS.handed (Ns1 := [_]) hH))) rfl ?_
    rintro _ w ⟨N_m, rfl, hM, hC⟩ a hA
    replace hH := HS.call (Ns1 := [_]) hH hC
    clear hC
    refine wpList_nil ?_
    refine hK13 _ _ ?_
    clear hK13
    replace hA := hA.sub (E' := [(50, _), (49, _), (48, _), (47, _), (46, _), (45, _), (43, _), (42, _), (41, _), (40, _), (39, _), (38, _), (37, _), (36, _), (7, _), (35, _), (34, _), (33, _), (32, _), (31, _), (30, _), (27, _), (26, _), (25, _), (24, _), (6, _), (5, _), (4, _), (3, _), (2, _), (0, _)]) ⟨rfl, rfl, rfl, rfl, rfl, rfl, rfl, rfl, rfl, rfl, rfl, rfl, rfl, rfl, rfl, rfl, rfl, rfl, rfl, rfl, rfl, rfl, rfl, rfl, rfl, rfl, rfl, rfl, rfl, rfl, rfl, trivial⟩
    refine wp_seq_k fun K16 hK16 => ?_
    refine wp_region_lit ?_
    refine asg hA fun a hA => ?_
    refine wpList_nil ?_
    refine hK16 _ _ ?_
    clear hK16
    refine wp_block ?_
    replace hH := hH.pick [3, 0, 1, 2] (Hs' := [_, _, _, _]) rfl
    replace hH := HS.fold [_] [_, _, _] hH
    obtain ⟨NR17, hNR17, hH⟩ := hH
    refine wp_loop_ghost (fun gm a w => ∃ k : Nat, ∃ lb : Bs, ∃ N_b : Hl, At 124 [(8, I k), (50, e.bv), (47, (I i)), (46, v), (45, (.pointer (some ⟨b_m, 0, none⟩))), (43, v_t35), (42, (.pointer (some ⟨b_v, 0, none⟩))), (37, (I i)), (36, v), (7, v_t35), (35, v_t35), (34, e.bv), (31, (I i)), (30, v), (25, v), (24, (I i)), (6, (I i)), (5, (.pointer (some ⟨b_m, 0, none⟩))), (4, (I 0)), (3, (.pointer (some ⟨b_v, 0, none⟩))), (2, (.bool false)), (0, v)] a ∧ HS [] w0 w ([N_b, NR17]) ∧ (k ≤ lb.length) ∧ (lb.length ≤ 4194304) ∧ (Ow B8 5 v_t35 lb N_b) ∧ gm = lb.length - k) ((e.b).length - (0)) ⟨0, e.b, N_t35, hA.sub ⟨rfl, rfl, rfl, rfl, rfl, rfl, rfl, rfl, rfl, rfl, rfl, rfl, rfl, rfl, rfl, rfl, rfl, rfl, rfl, rfl, rfl, rfl, trivial⟩, hH, by omega, by omega, by first | exact hO_b | assumption, rfl⟩ ?_
    clear hA hH
    rintro gm a w ⟨k, lb, N_b, hA, hH, hk, hlb, hO_b, rfl⟩
    refine wp_seq_k fun K18 hK18 => ?_
    refine wp_seq_k fun K19 hK19 => ?_
    refine wp_region_lit ?_
    refine mv hA fun a hA => ?_
    refine mv hA fun a hA => ?_
    refine sq hA (q_len Tryd.underlying32 rfl (Own.shp hO_b)) rfl fun a hA => ?_
    refine sq hA (q_lssI rfl rfl) rfl fun a hA => ?_
    refine wpList_nil ?_
    refine hK19 _ _ ?_
    clear hK19
    refine cond_d hA rfl (fun hc65 => ?_) (fun hc65 => ?_)
    ·skip
     refine wp_skip ?_
     refine hK18 _ _ ?_
     clear hK18
     refine wp_seq_k fun K20 hK20 => ?_
     refine wp_block ?_
     refine wp_region_lit ?_
     refine mv hA fun a hA => ?_
     refine mv hA fun a hA => ?_
     refine sq hA (q_idx1 (k) Tryd.underlying32 ti5 rfl rfl (by first | omega | rfl) (Own.shp hO_b) (by first | omega | (simp; done) | (simp; omega) | (rw [List.length_map]; assumption) | assumption | rfl | (simp [*]; done) | (simp [*]; omega))) rfl fun a hA => ?_
     refine sq hA (q_loadRm (0#8) Tryd.underlying5 rfl rfl (Own.rd0 hO_b hH 0 rfl) (by first | omega | (simp; done) | (simp; omega) | (rw [List.length_map]; assumption) | assumption | rfl | (simp [*]; done) | (simp [*]; omega))) rfl fun a hA => ?_
     refine sq hA (q_xor8 (q := 255#8) rfl rfl) rfl fun a hA => ?_
     refine sq hA (q_idx1 (k) Tryd.underlying32 ti5 rfl rfl (by first | omega | rfl) (Own.shp hO_b) (by first | omega | (simp; done) | (simp; omega) | (rw [List.length_map]; assumption) | assumption | rfl | (simp [*]; done) | (simp [*]; omega))) rfl fun a hA => ?_
     refine s0 hA (lo_storeO hH hO_b ti5 rfl rfl (by first | omega | (simp; done) | (simp; omega) | (rw [List.length_map]; assumption) | assumption | rfl | (simp [*]; done) | (simp [*]; omega)) rfl) ?_
     clear hH; rintro _ w ⟨N_t35, hO_b, hH⟩
     obtain ⟨lb2, hlb2, hO_new⟩ : ∃ z : Bs, z.length = lb.length ∧ Ow B8 5 v_t35 z N_t35 := ⟨_, List.length_set .., hO_b⟩
     refine wpList_nil ?_
     refine block_normal ?_
     refine hK20 _ _ ?_
     clear hK20
     refine wp_region_lit ?_
     refine mv hA fun a hA => ?_
     refine sq hA (q_addI (n := 1) rfl rfl (by omega)) rfl fun a hA => ?_
     refine asg hA fun a hA => ?_
     refine wpList_nil ?_
     exact ⟨_, by omega, k + 1, lb2, N_t35, hA.sub ⟨rfl, rfl, rfl, rfl, rfl, rfl, rfl, rfl, rfl, rfl, rfl, rfl, rfl, rfl, rfl, rfl, rfl, rfl, rfl, rfl, rfl, rfl, trivial⟩, hH, by omega, by omega, by exact hO_new, rfl⟩
    ·skip
     refine wp_exit ?_
     refine then_exit ?_
     replace hH := HS.unfold [_] hNR17 hH
     refine then_exit ?_
     refine exit_here ?_
     refine block_normal ?_
     refine hK11 _ _ ?_
     clear hK11
     refine wp_region_lit ?_
     refine mv hA fun a hA => ?_
     refine sq hA (q_addI (n := 1) rfl rfl (by omega)) rfl fun a hA => ?_
     refine asg hA fun a hA => ?_
     refine wpList_nil ?_
     replace hH := hH.pick [2, 3, 1, 0] (Hs' := [_, _, _, _]) rfl
     replace hH := hH.pick [0, 1, 2] (Hs' := [_, _, _]) rfl
     exact ⟨_, by omega, i + 1, T1, _, N_t, N_v, N_m, hA.sub ⟨rfl, rfl, rfl, rfl, rfl, rfl, trivial⟩, hH, by omega, by exact hI_T1, by (rw [hf_T1]; exact hf), by exact (hs_T1 _ hs).mono (by omega), by first | (show V.gen + 1 ≤ _; omega) | (show V.gen ≤ _; omega), by exact hT, by exact hV_v, by exact hM, rfl⟩
   ·skip
    refine wp_seq_k fun K21 hK21 => ?_
    refine wp_region_lit ?_
    refine mv hA fun a hA => ?_
    refine mv hA fun a hA => ?_
    replace hH := hH.pick [1, 2, 0, 3] (Hs' := [_, _, _, _]) rfl
    refine sl hA (lo_call fn22 rfl (add_i (hg.mono0 hH) b_v b_t hV_v hT hI hf (Gl.ngs (Ns1 := [_, _]) hg NG.nil hH) _ _ (Own.rdM hO_t35 (Ns1 := [_, _]) hH 0 rfl) (by first | omega | (simp; done) | (simp; omega)) (by have := hs 0; omega) (HS.handed (Ns1 := [_, _]) hH))) rfl ?_
    rintro _ w ⟨T1, N_t, N_v, rfl, hI_T1, hf_T1, hs_T1, hT, hV_v, hC⟩ a hA
    replace hH := HS.call (Ns1 := [_, _]) hH hC
    clear hC
    refine wpList_nil ?_
    refine hK21 _ _ ?_
    clear hK21
    replace hA := hA.sub (E' := [(53, _), (52, _), (41, _), (40, _), (39, _), (38, _), (37, _), (36, _), (7, _), (35, _), (34, _), (33, _), (32, _), (31, _), (30, _), (27, _), (26, _), (25, _), (24, _), (6, _), (5, _), (4, _), (3, _), (2, _), (0, _)]) ⟨rfl, rfl, rfl, rfl, rfl, rfl, rfl, rfl, rfl, rfl, rfl, rfl, rfl, rfl, rfl, rfl, rfl, rfl, rfl, rfl, rfl, rfl, rfl, rfl, rfl, trivial⟩
    refine wp_region_lit ?_
    refine mv hA fun a hA => ?_
    refine mv hA fun a hA => ?_
    refine mv hA fun a hA => ?_
    refine sq hA (q_idxk (i) Tryd.underlying22 ti39 rfl rfl (by first | omega | rfl) (Rd.shp hcr.1) (by first | omega | (simp; done) | (simp; omega) | (rw [List.length_map]; assumption) | assumption | rfl | (simp [*]; done) | (simp [*]; omega))) rfl fun a hA => ?_
    refine sq hA (q_fldE 1 Tryd.underlying39 rfl rfl ti32 rfl) rfl fun a hA => ?_
    refine sq hA (q_loadR Tryd.underlying32 rfl rfl (hH.rd hcr.1) (by omega) hE1) rfl fun a hA => ?_
    replace hH := hH.pick [3, 0, 1, 2] (Hs' := [_, _, _, _]) rfl
    refine sl hA (lo_call fn28 rfl (madd_mm b_m _ _ _ _ hM hI.vok.rn _ _ (HS.rdM (Ns1 := [_]) hH he.1) (by first | omega | (simp; done) | (simp; omega)) (HS.handed (Ns1 := [_]) hH))) rfl ?_
    rintro _ w ⟨N_m, rfl, hM, hC⟩ a hA
    replace hH := HS.call (Ns1 := [_]) hH hC
    clear hC
    refine wpList_nil ?_
    refine hK13 _ _ ?_
    clear hK13
    replace hA := hA.sub (E' := [(60, _), (59, _), (58, _), (57, _), (56, _), (55, _), (53, _), (52, _), (41, _), (40, _), (39, _), (38, _), (37, _), (36, _), (7, _), (35, _), (34, _), (33, _), (32, _), (31, _), (30, _), (27, _), (26, _), (25, _), (24, _), (6, _), (5, _), (4, _), (3, _), (2, _), (0, _)]) ⟨rfl, rfl, rfl, rfl, rfl, rfl, rfl, rfl, rfl, rfl, rfl, rfl, rfl, rfl, rfl, rfl, rfl, rfl, rfl, rfl, rfl, rfl, rfl, rfl, rfl, rfl, rfl, rfl, rfl, rfl, rfl, trivial⟩
    refine wp_seq_k fun K22 hK22 => ?_
    refine wp_region_lit ?_
    refine asg hA fun a hA => ?_
    refine wpList_nil ?_
    refine hK22 _ _ ?_
    clear hK22
    refine wp_block ?_
    replace hH := hH.pick [3, 0, 1, 2] (Hs' := [_, _, _, _]) rfl
    replace hH := HS.fold [_] [_, _, _] hH
    obtain ⟨NR23, hNR23, hH⟩ := hH
    refine wp_loop_ghost (fun gm a w => ∃ k : Nat, ∃ lb : Bs, ∃ N_b : Hl, At 124 [(8, I k), (60, e.bv), (57, (I i)), (56, v), (55, (.pointer (some ⟨b_m, 0, none⟩))), (53, v_t35), (52, (.pointer (some ⟨b_v, 0, none⟩))), (37, (I i)), (36, v), (7, v_t35), (35, v_t35), (34, e.bv), (31, (I i)), (30, v), (25, v), (24, (I i)), (6, (I i)), (5, (.pointer (some ⟨b_m, 0, none⟩))), (4, (I 0)), (3, (.pointer (some ⟨b_v, 0, none⟩))), (2, (.bool false)), (0, v)] a ∧ HS [] w0 w ([N_b, NR23]) ∧ (k ≤ lb.length) ∧ (lb.length ≤ 4194304) ∧ (Ow B8 5 v_t35 lb N_b) ∧ gm = lb.length - k) ((e.b).length - (0)) ⟨0, e.b, N_t35, hA.sub ⟨rfl, rfl, rfl, rfl, rfl, rfl, rfl, rfl, rfl, rfl, rfl, rfl, rfl, rfl, rfl, rfl, rfl, rfl, rfl, rfl, rfl, rfl, trivial⟩, hH, by omega, by omega, by first | exact hO_b | assumption, rfl⟩ ?_
    clear hA hH
    rintro gm a w ⟨k, lb, N_b, hA, hH, hk, hlb, hO_b, rfl⟩
    refine wp_seq_k fun K24 hK24 => ?_
    refine wp_seq_k fun K25 hK25 => ?_
    refine wp_region_lit ?_
    refine mv hA fun a hA => ?_
    refine mv hA fun a hA => ?_
    refine sq hA (q_len Tryd.underlying32 rfl (Own.shp hO_b)) rfl fun a hA => ?_
    refine sq hA (q_lssI rfl rfl) rfl fun a hA => ?_
    refine wpList_nil ?_
    refine hK25 _ _ ?_
    clear hK25
    refine cond_d hA rfl (fun hc65 => ?_) (fun hc65 => ?_)
    ·skip
     refine wp_skip ?_
     refine hK24 _ _ ?_
     clear hK24
     refine wp_seq_k fun K26 hK26 => ?_
     refine wp_block ?_
     refine wp_region_lit ?_
     refine mv hA fun a hA => ?_
     refine mv hA fun a hA => ?_
     refine sq hA (q_idx1 (k) Tryd.underlying32 ti5 rfl rfl (by first | omega | rfl) (Own.shp hO_b) (by first | omega | (simp; done) | (simp; omega) | (rw [List.length_map]; assumption) | assumption | rfl | (simp [*]; done) | (simp [*]; omega))) rfl fun a hA => ?_
     refine sq hA (q_loadRm (0#8) Tryd.underlying5 rfl rfl (Own.rd0 hO_b hH 0 rfl) (by first | omega | (simp; done) | (simp; omega) | (rw [List.length_map]; assumption) | assumption | rfl | (simp [*]; done) | (simp [*]; omega))) rfl fun a hA => ?_
     refine sq hA (q_xor8 (q := 255#8) rfl rfl) rfl fun a hA => ?_
     refine sq hA (q_idx1 (k) Tryd.underlying32 ti5 rfl rfl (by first | omega | rfl) (Own.shp hO_b) (by first | omega | (simp; done) | (simp; omega) | (rw [List.length_map]; assumption) | assumption | rfl | (simp [*]; done) | (simp [*]; omega))) rfl fun a hA => ?_
     refine s0 hA (lo_storeO hH hO_b ti5 rfl rfl (by first | omega | (simp; done) | (simp; omega) | (rw [List.length_map]; assumption) | assumption | rfl | (simp [*]; done) | (simp [*]; omega)) rfl) ?_
     clear hH; rintro _ w ⟨N_t35, hO_b, hH⟩
     obtain ⟨lb2, hlb2, hO_new⟩ : ∃ z : Bs, z.length = lb.length ∧ Ow B8 5 v_t35 z N_t35 := ⟨_, List.length_set .., hO_b⟩
     refine wpList_nil ?_
     refine block_normal ?_
     refine hK26 _ _ ?_
     clear hK26
     refine wp_region_lit ?_
     refine mv hA fun a hA => ?_
     refine sq hA (q_addI (n := 1) rfl rfl (by omega)) rfl fun a hA => ?_
     refine asg hA fun a hA => ?_
     refine wpList_nil ?_
     exact ⟨_, by omega, k + 1, lb2, N_t35, hA.sub ⟨rfl, rfl, rfl, rfl, rfl, rfl, rfl, rfl, rfl, rfl, rfl, rfl, rfl, rfl, rfl, rfl, rfl, rfl, rfl, rfl, rfl, rfl, trivial⟩, hH, by omega, by omega, by exact hO_new, rfl⟩
    ·skip
     refine wp_exit ?_
     refine then_exit ?_
     replace hH := HS.unfold [_] hNR23 hH
     refine then_exit ?_
     refine exit_here ?_
     refine block_normal ?_
     refine hK11 _ _ ?_
     clear hK11
     refine wp_region_lit ?_
     refine mv hA fun a hA => ?_
     refine sq hA (q_addI (n := 1) rfl rfl (by omega)) rfl fun a hA => ?_
     refine asg hA fun a hA => ?_
     refine wpList_nil ?_
     replace hH := hH.pick [2, 3, 1, 0] (Hs' := [_, _, _, _]) rfl
     replace hH := hH.pick [0, 1, 2] (Hs' := [_, _, _]) rfl
     exact ⟨_, by omega, i + 1, T1, _, N_t, N_v, N_m, hA.sub ⟨rfl, rfl, rfl, rfl, rfl, rfl, trivial⟩, hH, by omega, by exact hI_T1, by (rw [hf_T1]; exact hf), by exact (hs_T1 _ hs).mono (by omega), by first | (show V.gen + 1 ≤ _; omega) | (show V.gen ≤ _; omega), by exact hT, by exact hV_v, by exact hM, rfl⟩
  ·skip
   refine wp_exit ?_
   refine then_exit ?_
   refine then_exit ?_
   refine exit_here ?_
   refine hK7 _ _ ?_
   clear hK7
   replace hA := hA.s4 5 4 3 2
   refine wp_seq_k fun K27 hK27 => ?_
   refine wp_region_lit ?_
   refine mv hA fun a hA => ?_
   replace hH := hH.pick [1, 0, 2] (Hs' := [_, _, _]) rfl
   refine sl hA (lo_call fn23 rfl (recs_ovm b_v b_t V N_v hV_v hI.vok (HS.handed (Ns1 := [_]) hH))) rfl ?_
   rintro _ w ⟨v_t75, N_t75, N_dt75, N_v, rfl, hQ_t75, hV_v, hC⟩ a hA
   replace hH := HS.call (Ns1 := [_]) hH hC
   clear hC
   refine mv hA fun a hA => ?_
   refine sl hA (lo_call fn26 rfl (text_vm b_v b_t V N_v hV_v hI.vok (HS.handed (Ns1 := [_]) hH))) rfl ?_
   rintro _ w ⟨v_t77, N_t77, N_v, rfl, hO_t77, hV_v, hC⟩ a hA
   replace hH := HS.call (Ns1 := [_]) hH hC
   clear hC
   obtain ⟨vs, hvl, hvo, hva⟩ := hQ_t75
   obtain ⟨rs, hrs⟩ : ∃ z, z = recsO V := ⟨_, rfl⟩
   rw [← hrs] at hvl hvo hva
   obtain ⟨ho1, ho2, ho3⟩ := outs_len hI.vok
   rw [← hrs] at ho2 ho3
   refine asg hA fun a hA => ?_
   refine asg hA fun a hA => ?_
   refine wpList_nil ?_
   refine hK27 _ _ ?_
   clear hK27
   replace hA := hA.s6 10 9 5 4 3 2
   refine wp_seq_k fun K28 hK28 => ?_
   refine wp_seq_k fun K29 hK29 => ?_
   refine wp_region_lit ?_
   refine asg hA fun a hA => ?_
   refine wpList_nil ?_
   refine hK29 _ _ ?_
   clear hK29
   refine wp_block ?_
   replace hH := hH.pick [2, 3, 0, 1, 4, 5] (Hs' := [_, _, _, _, _, _]) rfl
   replace hH := HS.fold [_, _] [_, _, _, _] hH
   obtain ⟨NR30, hNR30, hH⟩ := hH
   refine wp_loop_ghost (fun gm a w => ∃ i : Nat, ∃ ls : List Bs, ∃ N_d : Hl, At 124 [(11, I i), (10, v_t77), (9, v_t75), (5, (.pointer (some ⟨b_m, 0, none⟩))), (4, (I 0)), (3, (.pointer (some ⟨b_v, 0, none⟩))), (2, (.bool false))] a ∧ HS [] w0 w ([N_t75, N_d, NR30]) ∧ (i ≤ rs.length) ∧ (ls.length = rs.length) ∧ (OwnAll 5 vs ls N_d) ∧ (∀ y ∈ ls, y.length ≤ 4194304) ∧ gm = rs.length - i) (rs.length - (0)) ⟨0, rs, N_dt75, hA.sub ⟨rfl, rfl, rfl, rfl, rfl, rfl, rfl, trivial⟩, hH, by omega, by rfl, by exact hva, by exact ho2, rfl⟩ ?_
   clear hA hH
   rintro gm a w ⟨i, ls, N_d, hA, hH, hi, hll, hva, hrb, rfl⟩
   refine wp_seq_k fun K31 hK31 => ?_
   refine wp_seq_k fun K32 hK32 => ?_
   refine wp_region_lit ?_
   refine mv hA fun a hA => ?_
   refine mv hA fun a hA => ?_
   refine sq hA (q_len Tryd.underlying33 rfl (Own.shp hvo)) rfl fun a hA => ?_
   refine sq hA (q_lssI rfl rfl) rfl fun a hA => ?_
   refine wpList_nil ?_
   refine hK32 _ _ ?_
   clear hK32
   refine cond_d hA rfl (fun hc81 => ?_) (fun hc81 => ?_)
   ·skip
    refine wp_skip ?_
    refine hK31 _ _ ?_
    clear hK31
    refine wp_seq_k fun K33 hK33 => ?_
    refine wp_block ?_
    refine wp_seq_k fun K34 hK34 => ?_
    refine wp_region_lit ?_
    refine asg hA fun a hA => ?_
    replace hH := hH.pick [1, 0, 2] (Hs' := [_, _, _]) rfl
    obtain ⟨N1, Nx, N2, hNd, hO_row, hbk⟩ := hva.at (i := i) (by omega)
    rw [hNd] at hH
    replace hH := hH.split
    replace hH := hH.pick [1, 0, 2, 3] (Hs' := [_, _, _, _]) rfl
    replace hH := hH.split
    refine wpList_nil ?_
    refine hK34 _ _ ?_
    clear hK34
    refine wp_block ?_
    replace hH := hH.pick [0, 3, 1, 2, 4] (Hs' := [_, _, _, _, _]) rfl
    replace hH := HS.fold [_, _] [_, _, _] hH
    obtain ⟨NR35, hNR35, hH⟩ := hH
    refine wp_loop_ghost (fun gm a w => ∃ k : Nat, ∃ lb : Bs, ∃ N_b : Hl, At 124 [(12, I k), (79, v_t75), (78, (I i)), (11, (I i)), (10, v_t77), (9, v_t75), (5, (.pointer (some ⟨b_m, 0, none⟩))), (4, (I 0)), (3, (.pointer (some ⟨b_v, 0, none⟩))), (2, (.bool false))] a ∧ HS [] w0 w ([N_b, N_t75, NR35]) ∧ (k ≤ lb.length) ∧ (lb.length ≤ 4194304) ∧ (Ow B8 5 (vs.getD i nilV) lb N_b) ∧ gm = lb.length - k) (((ls.getD i [])).length - (0)) ⟨0, (ls.getD i []), Nx, hA.sub ⟨rfl, rfl, rfl, rfl, rfl, rfl, rfl, rfl, rfl, rfl, trivial⟩, hH, by omega, by exact hrb _ (getD_mem (by omega)), by first | exact hO_row | assumption, rfl⟩ ?_
    clear hA hH
    rintro gm a w ⟨k, lb, N_b, hA, hH, hk, hlb, hO_row, rfl⟩
    refine wp_seq_k fun K36 hK36 => ?_
    refine wp_seq_k fun K37 hK37 => ?_
    refine wp_region_lit ?_
    refine mv hA fun a hA => ?_
    refine mv hA fun a hA => ?_
    refine mv hA fun a hA => ?_
    refine sq hA (q_idx1 (i) Tryd.underlying33 ti32 rfl rfl (by first | omega | rfl) (Own.shp hvo) (by first | omega | (simp; done) | (simp; omega) | (rw [List.length_map]; assumption) | assumption | rfl | (simp [*]; done) | (simp [*]; omega))) rfl fun a hA => ?_
    refine sq hA (q_loadR Tryd.underlying32 rfl rfl (Own.rd0 hvo hH 1 rfl) (by first | omega | (simp; done) | (simp; omega) | (rw [List.length_map]; assumption) | assumption | rfl | (simp [*]; done) | (simp [*]; omega)) (getD_some' vs nilV (by omega))) rfl fun a hA => ?_
    refine sq hA (q_len Tryd.underlying32 rfl (Own.shp hO_row)) rfl fun a hA => ?_
    refine sq hA (q_lssI rfl rfl) rfl fun a hA => ?_
    refine wpList_nil ?_
    refine hK37 _ _ ?_
    clear hK37
    refine cond_d hA rfl (fun hc90 => ?_) (fun hc90 => ?_)
    ·skip
     refine wp_skip ?_
     refine hK36 _ _ ?_
     clear hK36
     refine wp_seq_k fun K38 hK38 => ?_
     refine wp_block ?_
     refine wp_region_lit ?_
     refine mv hA fun a hA => ?_
     refine mv hA fun a hA => ?_
     refine sq hA (q_idx1 (i) Tryd.underlying33 ti32 rfl rfl (by first | omega | rfl) (Own.shp hvo) (by first | omega | (simp; done) | (simp; omega) | (rw [List.length_map]; assumption) | assumption | rfl | (simp [*]; done) | (simp [*]; omega))) rfl fun a hA => ?_
     refine sq hA (q_loadR Tryd.underlying32 rfl rfl (Own.rd0 hvo hH 1 rfl) (by first | omega | (simp; done) | (simp; omega) | (rw [List.length_map]; assumption) | assumption | rfl | (simp [*]; done) | (simp [*]; omega)) (getD_some' vs nilV (by omega))) rfl fun a hA => ?_
     refine mv hA fun a hA => ?_
     refine sq hA (q_idx1 (k) Tryd.underlying32 ti5 rfl rfl (by first | omega | rfl) (Own.shp hO_row) (by first | omega | (simp; done) | (simp; omega) | (rw [List.length_map]; assumption) | assumption | rfl | (simp [*]; done) | (simp [*]; omega))) rfl fun a hA => ?_
     refine sq hA (q_loadRm (0#8) Tryd.underlying5 rfl rfl (Own.rd0 hO_row hH 0 rfl) (by first | omega | (simp; done) | (simp; omega) | (rw [List.length_map]; assumption) | assumption | rfl | (simp [*]; done) | (simp [*]; omega))) rfl fun a hA => ?_
     refine sq hA (q_xor8 (q := 255#8) rfl rfl) rfl fun a hA => ?_
     refine sq hA (q_idx1 (k) Tryd.underlying32 ti5 rfl rfl (by first | omega | rfl) (Own.shp hO_row) (by first | omega | (simp; done) | (simp; omega) | (rw [List.length_map]; assumption) | assumption | rfl | (simp [*]; done) | (simp [*]; omega))) rfl fun a hA => ?_
     refine s0 hA (lo_storeO hH hO_row ti5 rfl rfl (by first | omega | (simp; done) | (simp; omega) | (rw [List.length_map]; assumption) | assumption | rfl | (simp [*]; done) | (simp [*]; omega)) rfl) ?_
     clear hH; rintro _ w ⟨N_row, hO_row, hH⟩
     obtain ⟨lb2, hlb2, hO_new⟩ : ∃ z : Bs, z.length = lb.length ∧ Ow B8 5 (vs.getD i nilV) z N_row := ⟨_, List.length_set .., hO_row⟩
     refine wpList_nil ?_
     refine block_normal ?_
     refine hK38 _ _ ?_
     clear hK38
     refine wp_region_lit ?_
     refine mv hA fun a hA => ?_
     refine sq hA (q_addI (n := 1) rfl rfl (by omega)) rfl fun a hA => ?_
     refine asg hA fun a hA => ?_
     refine wpList_nil ?_
     exact ⟨_, by omega, k + 1, lb2, N_row, hA.sub ⟨rfl, rfl, rfl, rfl, rfl, rfl, rfl, rfl, rfl, rfl, trivial⟩, hH, by omega, by omega, by exact hO_new, rfl⟩
    ·skip
     refine wp_exit ?_
     refine then_exit ?_
     replace hH := HS.unfold [_, _] hNR35 hH
     refine then_exit ?_
     refine exit_here ?_
     refine block_normal ?_
     refine hK33 _ _ ?_
     clear hK33
     refine wp_region_lit ?_
     refine mv hA fun a hA => ?_
     replace hH := hH.pick [0, 2, 1, 3, 4] (Hs' := [_, _, _, _, _]) rfl
     replace hH := hH.join
     replace hH := hH.pick [2, 0, 1, 3] (Hs' := [_, _, _, _]) rfl
     replace hH := hH.join
     have hva1 := hbk _ _ hO_row
     refine sq hA (q_addI (n := 1) rfl rfl (by omega)) rfl fun a hA => ?_
     refine asg hA fun a hA => ?_
     refine wpList_nil ?_
     replace hH := hH.pick [1, 0, 2] (Hs' := [_, _, _]) rfl
     exact ⟨_, by omega, i + 1, (ls.set i lb), N1 ++ (N_b ++ N2), hA.sub ⟨rfl, rfl, rfl, rfl, rfl, rfl, rfl, trivial⟩, hH, by omega, by (rw [List.length_set]; exact hll), by exact hva1, by (intro y hy; rcases List.mem_or_eq_of_mem_set hy with h | h; exact hrb y h; rw [h]; exact hlb), rfl⟩
   ·skip
    refine wp_exit ?_
    refine then_exit ?_
    replace hH := HS.unfold [_, _] hNR30 hH
    refine then_exit ?_
    refine exit_here ?_
    refine hK28 _ _ ?_
    clear hK28
    replace hA := hA.s5 10 5 4 3 2
    refine wp_seq_k fun K39 hK39 => ?_
    refine wp_seq_k fun K40 hK40 => ?_
    refine wp_region_lit ?_
    refine asg hA fun a hA => ?_
    refine wpList_nil ?_
    refine hK40 _ _ ?_
    clear hK40
    refine wp_block ?_
    replace hH := hH.pick [3, 0, 1, 2, 4, 5] (Hs' := [_, _, _, _, _, _]) rfl
    replace hH := HS.fold [_] [_, _, _, _, _] hH
    obtain ⟨NR41, hNR41, hH⟩ := hH
    refine wp_loop_ghost (fun gm a w => ∃ k : Nat, ∃ lb : Bs, ∃ N_b : Hl, At 124 [(13, I k), (10, v_t77), (5, (.pointer (some ⟨b_m, 0, none⟩))), (4, (I 0)), (3, (.pointer (some ⟨b_v, 0, none⟩))), (2, (.bool false))] a ∧ HS [] w0 w ([N_b, NR41]) ∧ (k ≤ lb.length) ∧ (lb.length ≤ 4194304) ∧ (Ow B8 5 v_t77 lb N_b) ∧ gm = lb.length - k) (((textO V)).length - (0)) ⟨0, (textO V), N_t77, hA.sub ⟨rfl, rfl, rfl, rfl, rfl, rfl, trivial⟩, hH, by omega, by omega, by first | exact hO_x | assumption, rfl⟩ ?_
    clear hA hH
    rintro gm a w ⟨k, lb, N_b, hA, hH, hk, hlb, hO_x, rfl⟩
    refine wp_seq_k fun K42 hK42 => ?_
    refine wp_seq_k fun K43 hK43 => ?_
    refine wp_region_lit ?_
    refine mv hA fun a hA => ?_
    refine mv hA fun a hA => ?_
    refine sq hA (q_len Tryd.underlying32 rfl (Own.shp hO_x)) rfl fun a hA => ?_
    refine sq hA (q_lssI rfl rfl) rfl fun a hA => ?_
    refine wpList_nil ?_
    refine hK43 _ _ ?_
    clear hK43
    refine cond_d hA rfl (fun hc105 => ?_) (fun hc105 => ?_)
    ·skip
     refine wp_skip ?_
     refine hK42 _ _ ?_
     clear hK42
     refine wp_seq_k fun K44 hK44 => ?_
     refine wp_block ?_
     refine wp_region_lit ?_
     refine mv hA fun a hA => ?_
     refine mv hA fun a hA => ?_
     refine sq hA (q_idx1 (k) Tryd.underlying32 ti5 rfl rfl (by first | omega | rfl) (Own.shp hO_x) (by first | omega | (simp; done) | (simp; omega) | (rw [List.length_map]; assumption) | assumption | rfl | (simp [*]; done) | (simp [*]; omega))) rfl fun a hA => ?_
     refine sq hA (q_loadRm (0#8) Tryd.underlying5 rfl rfl (Own.rd0 hO_x hH 0 rfl) (by first | omega | (simp; done) | (simp; omega) | (rw [List.length_map]; assumption) | assumption | rfl | (simp [*]; done) | (simp [*]; omega))) rfl fun a hA => ?_
     refine sq hA (q_xor8 (q := 255#8) rfl rfl) rfl fun a hA => ?_
     refine sq hA (q_idx1 (k) Tryd.underlying32 ti5 rfl rfl (by first | omega | rfl) (Own.shp hO_x) (by first | omega | (simp; done) | (simp; omega) | (rw [List.length_map]; assumption) | assumption | rfl | (simp [*]; done) | (simp [*]; omega))) rfl fun a hA => ?_
     refine s0 hA (lo_storeO hH hO_x ti5 rfl rfl (by first | omega | (simp; done) | (simp; omega) | (rw [List.length_map]; assumption) | assumption | rfl | (simp [*]; done) | (simp [*]; omega)) rfl) ?_
     clear hH; rintro _ w ⟨N_t77, hO_x, hH⟩
     obtain ⟨lb2, hlb2, hO_new⟩ : ∃ z : Bs, z.length = lb.length ∧ Ow B8 5 v_t77 z N_t77 := ⟨_, List.length_set .., hO_x⟩
     refine wpList_nil ?_
     refine block_normal ?_
     refine hK44 _ _ ?_
     clear hK44
     refine wp_region_lit ?_
     refine mv hA fun a hA => ?_
     refine sq hA (q_addI (n := 1) rfl rfl (by omega)) rfl fun a hA => ?_
     refine asg hA fun a hA => ?_
     refine wpList_nil ?_
     exact ⟨_, by omega, k + 1, lb2, N_t77, hA.sub ⟨rfl, rfl, rfl, rfl, rfl, rfl, trivial⟩, hH, by omega, by omega, by exact hO_new, rfl⟩
    ·skip
     refine wp_exit ?_
     refine then_exit ?_
     replace hH := HS.unfold [_] hNR41 hH
     refine then_exit ?_
     refine exit_here ?_
     refine hK39 _ _ ?_
     clear hK39
     replace hA := hA.s4 5 4 3 2
     refine wp_seq_k fun K45 hK45 => ?_
     refine wp_region_lit ?_
     refine mv hA fun a hA => ?_
     refine sq hA (q_eqlI (n := 0) rfl rfl) rfl fun a hA => ?_
     replace hA := hA.decT (by first | rfl | omega | assumption | (simp; done) | (simp [*]; done))
     refine mv hA fun a hA => ?_
     refine gq hA rfl rfl (q_move rfl) rfl fun a hA => ?_
     refine gq hA rfl rfl (q_move rfl) rfl fun a hA => ?_
     replace hH := hH.pick [3, 5, 0, 1, 2, 4] (Hs' := [_, _, _, _, _, _]) rfl
     refine gl hA rfl rfl (lo_call fn14 rfl (same_vm b_v b_t V N_v hV_v hI.vok b_m _ _ _ N_m hM hI.vok.tl (fun y hy => Nat.le_trans (hI.vok.rl y hy) (by decide)) hI.vok.rn (HS.handed (Ns1 := [_, _]) hH))) rfl ?_
     rintro _ w ⟨N_v, N_m, rfl, hV_v, hM, hC⟩ a hA
     replace hH := HS.call (Ns1 := [_, _]) hH hC
     clear hC
     replace hA := hA.decT (by exact outs_f hI.vd)
     refine sq hA (q_pick_t rfl rfl) rfl fun a hA => ?_
     refine mv hA fun a hA => ?_
     refine gl hA rfl rfl (lo_call fn11 rfl (awake12_any (hg.mono0 hH))) rfl ?_
     rintro _ w ⟨rfl, hC⟩ a hA
     replace hH := HS.call0 hH hC
     clear hC
     refine sq hA (q_pick_t rfl rfl) rfl fun a hA => ?_
     refine asg hA fun a hA => ?_
     refine wpList_nil ?_
     refine hK45 _ _ ?_
     clear hK45
     replace hA := hA.s1 2
     refine wp_ret ?_
     refine post_ret hA (res_1 rfl hA rfl) ?_
     replace hH := hH.pick [] (Hs' := []) rfl
     exact ⟨_, rfl, rfl, hH⟩

end Go.Proofs.YthhdilafnfcpbaaDoor
