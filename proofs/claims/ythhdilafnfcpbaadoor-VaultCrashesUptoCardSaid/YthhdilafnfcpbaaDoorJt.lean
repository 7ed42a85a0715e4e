/- Layer 12 (vault): the document's vault, where its bytes are shared. -/
import Derived.Test.YthhdilafnfcpbaaDoorJp
import Derived.Test.YthhdilafnfcpbaaDoorVz
namespace Go.Proofs.YthhdilafnfcpbaaDoor
open Go
set_option linter.unusedVariables false
set_option linter.unusedSimpArgs false
set_option maxRecDepth 100000

theorem refadd_sh {w0 : World} (b_m g : Nat) (x rr : Value) (recs : List Bs) (N_mo N_md : Hl) (hR_m : RowsH 32 rr recs N_mo N_md) (hrn : recs.length ≤ 1048576) (v : Value) (l : Bs) (hr : By (doms [[(b_m, Obj.cells (mC g x rr).toArray 35 (0, 0))], N_mo, N_md]) w0 v l) (hl : l.length ≤ 262080) (hH : HS (doms [[(b_m, Obj.cells (mC g x rr).toArray 35 (0, 0))], N_mo, N_md]) w0 w0 [[(b_m, Obj.cells (mC g x rr).toArray 35 (0, 0))], N_mo, N_md]) :
    Calls Tryd.prog 28 #[(.pointer (some ⟨b_m, 0, none⟩)), v] w0 (Ret fun r w' => ∃ rq N_o' N_d', r = I 0 ∧ RowsH 32 rq (recs ++ [l]) N_o' N_d' ∧ (∀ p ∈ N_md, p ∈ N_d') ∧ HS (doms [[(b_m, Obj.cells (mC g x rr).toArray 35 (0, 0))], N_mo, N_md]) w0 w' [[(b_m, Obj.cells (mC g x rq).toArray 35 (0, 0))], N_o', N_d']) := by
 refine start (n := 20) (E := [(0, _), (1, _)]) Tryd.func28 rfl rfl rfl (args_look rfl) ?_
 intro a hA
 refine wp_seq_k fun K1 hK1 => ?_
 refine wp_region_lit ?_
 refine asg hA fun a hA => ?_
 refine wpList_nil ?_
 refine hK1 _ _ ?_
 clear hK1
 refine wp_seq_k fun K2 hK2 => ?_
 refine wp_seq_k fun K3 hK3 => ?_
 refine wp_region_lit ?_
 refine mv hA fun a hA => ?_
 refine sq hA (q_len Tryd.underlying32 rfl (Rd.shp hr)) rfl fun a hA => ?_
 refine sq hA (q_gtrI (n := 262080) rfl rfl) rfl fun a hA => ?_
 refine wpList_nil ?_
 refine hK3 _ _ ?_
 clear hK3
 replace hA := hA.s4 7 4 0 1
 refine cond_d hA rfl (fun hnn => absurd hnn (by omega)) (fun _ => ?_)
 refine wp_skip ?_
 refine hK2 _ _ ?_
 clear hK2
 replace hA := hA.s3 4 0 1
 refine wp_seq_k fun K4 hK4 => ?_
 refine any_go mixed (fun j => !(Nat.beq j 9 || Nat.beq j 12)) hH ?_
 clear hH; intro w hH
 have hS := hH
 refine any_l 13 ?_
 refine p0 hA 0 1 rfl (fun w => (q_move rfl)) fun a hA => ?_
 refine p0 hA 1 3 rfl (fun w => (q_move rfl)) fun a hA => ?_
 refine p0 hA 2 7 rfl (fun w => (q_nilCheck rfl)) fun a hA => ?_
 refine p0 hA 3 15 rfl (fun w => (q_fld 2 Tryd.underlying35 rfl rfl ti33 rfl)) fun a hA => ?_
 refine r0 hA 4 31 rfl hS (fun w hH => (q_loadB hH 0 rfl (List.mem_singleton.2 rfl) Tryd.underlying33 rfl rfl rfl)) fun a hA => ?_
 refine p0 hA 6 95 rfl (fun w => (q_move rfl)) fun a hA => ?_
 refine a1 hA 5 127 rfl (lo_bs (f := B8) (e := 5) ([]) hH rfl rfl (fun w => by kernel_rfl)) ?_
 clear hH; rintro v_t13 w ⟨N_t13, hO_t13, hH⟩
 replace hS := hH.pick [1, 2, 3] (Hs' := [_, _, _]) rfl
 refine ⟨fun _ _ => hS, ?_⟩
 intro a hA
 refine a1 hA 7 255 rfl (lo_appm hH Tryd.underlying32 Tryd.underlying32 (.inl rfl) ti5 rfl rfl rfl hO_t13 (Rd.src (hH.rd hr)) (one_B8 _) (by first | omega | (simp; done) | (simp; omega)) (by first | omega | (simp; done) | (simp; omega))) ?_
 clear hH; rintro v_t15 w ⟨N_t15, hO_t15, hH⟩
 replace hS := hH.pick [1, 2, 3] (Hs' := [_, _, _]) rfl
 refine ⟨fun _ _ => hS, ?_⟩
 intro a hA
 replace hO_t15 : Ow B8 5 v_t15 l N_t15 := by simpa using hO_t15
 refine a1 hA 8 511 rfl (lo_build1 hH Tryd.underlying33 ti32 rfl rfl (Own.one hO_t15)) ?_
 clear hH; rintro v_t16 w ⟨N_t16, hO_t16, hH⟩
 replace hS := hH.pick [2, 3, 4] (Hs' := [_, _, _]) rfl
 refine ⟨fun _ _ => hS, ?_⟩
 intro a hA
 replace hH := hH.pick [3, 0, 1, 2, 4] (Hs' := [_, _, _, _, _]) rfl
 obtain ⟨vs_t17, hvl_t17, hvo_t17, hvr_t17⟩ := hR_m
 refine a1n hA 9 1023 rfl (lo_append hH Tryd.underlying33 Tryd.underlying33 (.inl rfl) ti32 rfl rfl rfl hvo_t17 (Rd.src (Own.rd0 hO_t16 hH 1 rfl)) (by intro u hu; rw [List.mem_singleton.1 hu]; exact Own.one hO_t15) (by first | omega | (simp; done) | (simp; omega)) (by first | omega | (simp; done) | (simp; omega))) ?_
 clear hH; rintro v_t17 w ⟨N_t17, hO_t17, hH⟩
 replace hH := HS.join (hH.pick [2, 4, 0, 1, 3] (Hs' := [_, _, _, _, _]) rfl)
 obtain ⟨N_dt17, hN_dt17, hR_t17⟩ : ∃ N, N = _ ∧ RowsH 32 v_t17 _ N_t17 N := ⟨_, rfl, RowsH.snoc hvl_t17 hO_t17 hvr_t17 (Own.rdh hO_t15)⟩
 rw [← hN_dt17] at hH
 intro a hA
 refine p0 hA 10 2047 rfl (fun w => (q_nilCheck rfl)) fun a hA => ?_
 refine p0 hA 11 4095 rfl (fun w => (q_fld 2 Tryd.underlying35 rfl rfl ti33 rfl)) fun a hA => ?_
 replace hH := hH.pick [3, 0, 1, 2] (Hs' := [_, _, _, _]) rfl
 refine a0n hA 12 8191 rfl (lo_store1 hH ti33 rfl rfl ((show 2 < 3 by decide)) (RowsH.one hR_t17)) ?_
 clear hH; rintro _ w hH
 rw [mC_recs] at hH
 refine a_end (by kernel_rfl) ?_ _
 refine hK4 _ _ ?_
 clear hK4
 replace hA := hA.s1 4
 refine wp_seq_k fun K5 hK5 => ?_
 refine wp_region_lit ?_
 refine asg hA fun a hA => ?_
 refine wpList_nil ?_
 refine hK5 _ _ ?_
 clear hK5
 refine wp_ret ?_
 refine post_ret hA (res_1 rfl hA rfl) ?_
 replace hH := hH.pick [0, 2, 1, 3] (Hs' := [_, _, _, _]) rfl
 replace hH := hH.pick [0, 1, 2] (Hs' := [_, _, _]) rfl
 exact ⟨_, rfl, v_t17, N_t17, N_dt17, rfl, hR_t17, (fun p hp => by rw [hN_dt17]; exact List.mem_append_right _ hp), hH⟩

theorem same12_sh {w0 : World} (b_v b_t : Nat) (V : Vs) (N_v0 : Hl) (hV_v : VM 5 32 68 b_v b_t V N_v0) (hO : VOk V) (b_m g : Nat) (x rr : Value) (text : Bs) (recs : List Bs) (N_mo N_md : Hl) (hX_m : RdH N_md x text) (hR_m : RowsH 32 rr recs N_mo N_md) (hM : VOk ⟨g, text, recs, false⟩) (hH : HS (doms [N_v0, [(b_m, Obj.cells (mC g x rr).toArray 35 (0, 0))], N_mo, N_md]) w0 w0 [N_v0, [(b_m, Obj.cells (mC g x rr).toArray 35 (0, 0))], N_mo, N_md]) :
    Calls Tryd.prog 14 #[(.pointer (some ⟨b_v, 0, none⟩)), (.pointer (some ⟨b_m, 0, none⟩))] w0 (Ret fun r w' => ∃ N', r = .bool (decide (genO V = g ∧ textO V = text ∧ recsO V = recs)) ∧ VM 5 32 68 b_v b_t V N' ∧ HS (doms [N_v0, [(b_m, Obj.cells (mC g x rr).toArray 35 (0, 0))], N_mo, N_md]) w0 w' [N', [(b_m, Obj.cells (mC g x rr).toArray 35 (0, 0))], N_mo, N_md]) := by
 refine start (n := 30) (E := [(0, _), (1, _)]) Tryd.func14 rfl rfl rfl (args_look rfl) ?_
 intro a hA
 obtain ⟨ho1, ho2, ho3⟩ := outs_len hO
 have htl : text.length ≤ 262144 := hM.tl
 have hrl : ∀ y ∈ recs, y.length ≤ 4194304 := fun y hy => Nat.le_trans (hM.rl y hy) (by decide)
 have hrn : recs.length ≤ 1000000 := hM.rn
 refine wp_seq_k fun K1 hK1 => ?_
 refine wp_region_lit ?_
 refine asg hA fun a hA => ?_
 refine wpList_nil ?_
 refine hK1 _ _ ?_
 clear hK1
 refine wp_seq_k fun K2 hK2 => ?_
 refine any_goI mixed [1, 2, 3] (Hs' := [_, _, _]) rfl (fun _ => true) hH ?_
 clear hH; intro w hH hS
 refine any_l 26 ?_
 refine p0 hA 0 1 rfl (fun w => (q_move rfl)) fun a hA => ?_
 refine p0 hA 2 5 rfl (fun w => (q_move rfl)) fun a hA => ?_
 refine p0 hA 3 13 rfl (fun w => (q_nilCheck rfl)) fun a hA => ?_
 refine p0 hA 4 29 rfl (fun w => (q_fld 0 Tryd.underlying35 rfl rfl ti3 rfl)) fun a hA => ?_
 refine r0 hA 5 61 rfl hS (fun w hH => (q_loadB hH 0 rfl (List.mem_singleton.2 rfl) Tryd.underlying3 rfl rfl rfl)) fun a hA => ?_
 refine a1 hA 1 63 rfl (lo_call fn25 rfl (gen_vm b_v b_t V _ hV_v hO (HS.handed (Ns1 := [_]) hH))) ?_
 rintro _ w ⟨N_v, rfl, hV_v, hC⟩
 replace hH := HS.call (Ns1 := [_]) hH hC
 clear hC
 replace hS := hH.pick [1, 2, 3] (Hs' := [_, _, _]) rfl
 refine ⟨fun _ _ => hS, ?_⟩
 intro a hA
 refine p0 hA 6 127 rfl (fun w => (q_eqlI rfl rfl)) fun a hA => ?_
 refine hA.spl (fun hs11 hA => ?_) (fun hs11 hA => ?_)
 ·skip
  refine p0 hA 7 255 rfl (fun w => (q_move rfl)) fun a hA => ?_
  refine pg hA 8 511 rfl rfl rfl (fun w => (q_move rfl)) fun a hA => ?_
  refine pg hA 10 1535 rfl rfl rfl (fun w => (q_move rfl)) fun a hA => ?_
  refine pg hA 11 3583 rfl rfl rfl (fun w => (q_nilCheck rfl)) fun a hA => ?_
  refine pg hA 12 7679 rfl rfl rfl (fun w => (q_fld 1 Tryd.underlying35 rfl rfl ti32 rfl)) fun a hA => ?_
  refine rg hA 13 15871 rfl rfl rfl hS (fun w hH => (q_loadB hH 0 rfl (List.mem_singleton.2 rfl) Tryd.underlying32 rfl rfl rfl)) fun a hA => ?_
  refine g1 hA 9 16383 rfl rfl rfl (lo_call fn26 rfl (text_vm b_v b_t V _ hV_v hO (HS.handed (Ns1 := [_]) hH))) ?_
  rintro _ w ⟨v_t14, N_t14, N_v, rfl, hO_t14, hV_v, hC⟩
  replace hH := HS.call (Ns1 := [_]) hH hC
  clear hC
  replace hS := hH.pick [2, 3, 4] (Hs' := [_, _, _]) rfl
  refine ⟨fun _ _ => hS, ?_⟩
  intro a hA
  refine g1 hA 14 32767 rfl rfl rfl (lo_call fn21 rfl (same_any _ _ _ _ (Own.rd0 hO_t14 hH 1 rfl) (hX_m [] _ (RO.of hH 4 rfl)) (by first | omega | (simp; done) | (simp; omega)) (by first | omega | (simp; done) | (simp; omega)))) ?_
  rintro _ w ⟨rfl, hC⟩
  replace hH := HS.call0 hH hC
  clear hC
  replace hS := hH.pick [2, 3, 4] (Hs' := [_, _, _]) rfl
  refine ⟨fun _ _ => hS, ?_⟩
  intro a hA
  refine p0 hA 15 65535 rfl (fun w => (q_pick_t rfl rfl)) fun a hA => ?_
  refine hA.spl (fun hs20 hA => ?_) (fun hs20 hA => ?_)
  ·skip
   refine p0 hA 16 131071 rfl (fun w => (q_move rfl)) fun a hA => ?_
   refine pg hA 17 262143 rfl rfl rfl (fun w => (q_move rfl)) fun a hA => ?_
   refine pg hA 19 786431 rfl rfl rfl (fun w => (q_move rfl)) fun a hA => ?_
   refine pg hA 20 1835007 rfl rfl rfl (fun w => (q_nilCheck rfl)) fun a hA => ?_
   refine pg hA 21 3932159 rfl rfl rfl (fun w => (q_fld 2 Tryd.underlying35 rfl rfl ti33 rfl)) fun a hA => ?_
   refine rg hA 22 8126463 rfl rfl rfl hS (fun w hH => (q_loadB hH 0 rfl (List.mem_singleton.2 rfl) Tryd.underlying33 rfl rfl rfl)) fun a hA => ?_
   refine g1 hA 18 8388607 rfl rfl rfl (lo_call fn23 rfl (recs_vm b_v b_t V _ hV_v hO (HS.handed (Ns1 := [_]) hH))) ?_
   rintro _ w ⟨v_t23, N_t23, N_dt23, N_v, rfl, hR_t23, hV_v, hC⟩
   replace hH := HS.call (Ns1 := [_]) hH hC
   clear hC
   replace hS := hH.pick [4, 5, 6] (Hs' := [_, _, _]) rfl
   refine ⟨fun _ _ => hS, ?_⟩
   intro a hA
   refine g1 hA 23 16777215 rfl rfl rfl (lo_call fn31 rfl (sameR_any _ _ _ _ (RowsH.rdR hR_t23 hH 1 2 rfl rfl) (RowsH.rdR hR_m hH 5 6 rfl rfl) (by first | omega | (simp; done) | (simp; omega)) (by first | omega | (simp; done) | (simp; omega)) (by first | assumption | (simp; done) | (intro y hy; simp at hy; subst hy; decide)) (by first | assumption | (simp; done) | (intro y hy; simp at hy; subst hy; decide)))) ?_
   rintro _ w ⟨rfl, hC⟩
   replace hH := HS.call0 hH hC
   clear hC
   replace hS := hH.pick [4, 5, 6] (Hs' := [_, _, _]) rfl
   refine ⟨fun _ _ => hS, ?_⟩
   intro a hA
   refine p0 hA 24 33554431 rfl (fun w => (q_pick_t rfl rfl)) fun a hA => ?_
   refine p0 hA 25 67108863 rfl (fun w => (q_assign rfl)) fun a hA => ?_
   refine a_end (by kernel_rfl) ?_ _
   refine hK2 _ _ ?_
   clear hK2
   replace hA := hA.s1 4
   refine wp_ret ?_
   refine post_ret hA (res_1 rfl hA rfl) ?_
   replace hH := hH.pick [0, 4, 5, 6, 1, 2, 3] (Hs' := [_, _, _, _, _, _, _]) rfl
   replace hH := hH.pick [0, 1, 2, 3] (Hs' := [_, _, _, _]) rfl
   refine ⟨_, rfl, N_v, ?_, hV_v, hH⟩
   congr 1
   symm
   first | exact decide_eq_false (fun hV => by obtain ⟨h1, h2, h3⟩ := hV; first | contradiction | omega) | exact decide_eq_decide.2 ⟨fun hV => hV.2.2, fun hV => ⟨by omega, by assumption, hV⟩⟩
  ·skip
   refine p0 hA 16 131071 rfl (fun w => (q_move rfl)) fun a hA => ?_
   refine ps hA 17 262143 rfl rfl rfl fun a hA => ?_
   refine ps hA 19 786431 rfl rfl rfl fun a hA => ?_
   refine ps hA 20 1835007 rfl rfl rfl fun a hA => ?_
   refine ps hA 21 3932159 rfl rfl rfl fun a hA => ?_
   refine ps hA 22 8126463 rfl rfl rfl fun a hA => ?_
   refine ps hA 18 8388607 rfl rfl rfl fun a hA => ?_
   refine ps hA 23 16777215 rfl rfl rfl fun a hA => ?_
   refine p0 hA 24 33554431 rfl (fun w => (q_pick_f rfl rfl)) fun a hA => ?_
   refine p0 hA 25 67108863 rfl (fun w => (q_assign rfl)) fun a hA => ?_
   refine a_end (by kernel_rfl) ?_ _
   refine hK2 _ _ ?_
   clear hK2
   replace hA := hA.s1 4
   refine wp_ret ?_
   refine post_ret hA (res_1 rfl hA rfl) ?_
   replace hH := hH.pick [0, 2, 3, 4, 1] (Hs' := [_, _, _, _, _]) rfl
   replace hH := hH.pick [0, 1, 2, 3] (Hs' := [_, _, _, _]) rfl
   refine ⟨_, rfl, N_v, ?_, hV_v, hH⟩
   congr 1
   symm
   first | exact decide_eq_false (fun hV => by obtain ⟨h1, h2, h3⟩ := hV; first | contradiction | omega) | exact decide_eq_decide.2 ⟨fun hV => hV.2.2, fun hV => ⟨by omega, by assumption, hV⟩⟩
 ·skip
  refine p0 hA 7 255 rfl (fun w => (q_move rfl)) fun a hA => ?_
  refine ps hA 8 511 rfl rfl rfl fun a hA => ?_
  refine ps hA 10 1535 rfl rfl rfl fun a hA => ?_
  refine ps hA 11 3583 rfl rfl rfl fun a hA => ?_
  refine ps hA 12 7679 rfl rfl rfl fun a hA => ?_
  refine ps hA 13 15871 rfl rfl rfl fun a hA => ?_
  refine ps hA 9 16383 rfl rfl rfl fun a hA => ?_
  refine ps hA 14 32767 rfl rfl rfl fun a hA => ?_
  refine p0 hA 15 65535 rfl (fun w => (q_pick_f rfl rfl)) fun a hA => ?_
  refine p0 hA 16 131071 rfl (fun w => (q_move rfl)) fun a hA => ?_
  refine ps hA 17 262143 rfl rfl rfl fun a hA => ?_
  refine ps hA 19 786431 rfl rfl rfl fun a hA => ?_
  refine ps hA 20 1835007 rfl rfl rfl fun a hA => ?_
  refine ps hA 21 3932159 rfl rfl rfl fun a hA => ?_
  refine ps hA 22 8126463 rfl rfl rfl fun a hA => ?_
  refine ps hA 18 8388607 rfl rfl rfl fun a hA => ?_
  refine ps hA 23 16777215 rfl rfl rfl fun a hA => ?_
  refine p0 hA 24 33554431 rfl (fun w => (q_pick_f rfl rfl)) fun a hA => ?_
  refine p0 hA 25 67108863 rfl (fun w => (q_assign rfl)) fun a hA => ?_
  refine a_end (by kernel_rfl) ?_ _
  refine hK2 _ _ ?_
  clear hK2
  replace hA := hA.s1 4
  refine wp_ret ?_
  refine post_ret hA (res_1 rfl hA rfl) ?_
  refine ⟨_, rfl, N_v, ?_, hV_v, hH⟩
  congr 1
  symm
  first | exact decide_eq_false (fun hV => by obtain ⟨h1, h2, h3⟩ := hV; first | contradiction | omega) | exact decide_eq_decide.2 ⟨fun hV => hV.2.2, fun hV => ⟨by omega, by assumption, hV⟩⟩

end Go.Proofs.YthhdilafnfcpbaaDoor
