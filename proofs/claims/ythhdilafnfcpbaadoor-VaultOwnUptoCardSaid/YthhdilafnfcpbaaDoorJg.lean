/- Layer 12 (vault): steps in a row. -/
import Derived.Test.YthhdilafnfcpbaaDoorJf
namespace Go.Proofs.YthhdilafnfcpbaaDoor
open Go
set_option linter.unusedVariables false
set_option linter.unusedSimpArgs false
set_option maxRecDepth 100000

theorem Gl.ngs {lv : Nat} {M : List Nat} {w0 w : World} {Ns1 rest : List Hl} (h : Gl lv w0) (hM : NG lv M) (hH : HS M w0 w (Ns1 ++ rest)) : NG lv (doms Ns1) := by
  intro m hm
  obtain ⟨N', hN', p, hp, rfl⟩ := mem_doms.1 hm
  obtain ⟨i, hi⟩ := List.mem_iff_getElem?.1 hN'
  have hl := (List.getElem?_eq_some_iff.1 hi).1
  have h2 : HS M w0 w [N'] := hH.pick [i] (by simp only [pick, nth?_eq]; rw [List.getElem?_append_left hl, hi]) (by simp)
  exact h.ng hM (rest := []) h2 p.1 (mem_doms.2 ⟨N', by simp, p, hp, rfl⟩)
theorem ti84 : TI Tryd.prog 84 1 8 .nilFunc := ⟨Tryd.t84, by kernel_rfl, by kernel_rfl, by kernel_rfl, by kernel_rfl⟩
theorem syncm_any {w0 : World} (b_v : Nat) (i : Nat) :
    Calls Tryd.prog 46 #[(.pointer (some ⟨b_v, 0, none⟩)), I i] w0 (Ret fun r w' => ∃ b_p b_q, r = (.func (.func 69) #[] #[(.pointer (some ⟨b_p, 0, none⟩)), (.pointer (some ⟨b_q, 0, none⟩))]) ∧ HS [] w0 w' [[(b_p, Obj.cells [(.pointer (some ⟨b_v, 0, none⟩))].toArray 27 (0, 0))], [(b_q, Obj.cells [I i].toArray 3 (0, 0))]]) := by
 have hH := HS.start w0
 refine start (n := 6) (E := [(0, _), (1, _)]) Tryd.func46 rfl rfl rfl (args_look rfl) ?_
 intro a hA
 refine wp_seq_k fun K1 hK1 => ?_
 refine wp_region_lit ?_
 refine sl hA (lo_box1 hH rfl rfl) rfl ?_
 clear hH; rintro _ w ⟨b_t2, rfl, hH⟩ a hA
 refine sl hA (lo_box1 hH rfl rfl) rfl ?_
 clear hH; rintro _ w ⟨b_t3, rfl, hH⟩ a hA
 refine asg hA fun a hA => ?_
 refine wpList_nil ?_
 refine hK1 _ _ ?_
 clear hK1
 replace hA := hA.s3 4 3 2
 refine wp_seq_k fun K2 hK2 => ?_
 refine wp_region_lit ?_
 refine sq hA (q_makeFunc rfl rfl) rfl fun a hA => ?_
 refine asg hA fun a hA => ?_
 refine wpList_nil ?_
 refine hK2 _ _ ?_
 clear hK2
 replace hA := hA.s1 4
 refine wp_ret ?_
 refine post_ret hA (res_1 rfl hA rfl) ?_
 replace hH := hH.pick [1, 0] (Hs' := [_, _]) rfl
 exact ⟨_, rfl, b_t2, b_t3, rfl, hH⟩

set_option maxHeartbeats 1000000 in
theorem allA {w0 : World} {lv : Nat} (hg : Gl lv w0) (b_v b_t g : Nat) (x rr : Value) (T : Tp) (N : Hl) (hT : TM 5 76 66 b_t T N) (hB : Rdy T 4000) (v_s : Value) (N_s : Hl) (b_p b_q b_p2 b_q2 : Nat) (u : Value) (l : Bs) (hu : By (doms [N, [(b_v, Obj.cells (vC b_t g x rr false).toArray 68 (0, 0))], N_s, [(b_p, Obj.cells [(.pointer (some ⟨b_v, 0, none⟩))].toArray 27 (0, 0))], [(b_q, Obj.cells [u].toArray 32 (0, 0))], [(b_p2, Obj.cells [(.pointer (some ⟨b_v, 0, none⟩))].toArray 27 (0, 0))], [(b_q2, Obj.cells [I ((0 : Nat) : Int)].toArray 3 (0, 0))]]) w0 u l) (hl : l.length ≤ 262080) (hg40 : g ≤ 1099511627776) (hO_s : Own 84 1 v_s 2 [(.func (.func 44) #[] #[(.pointer (some ⟨b_p, 0, none⟩)), (.pointer (some ⟨b_q, 0, none⟩))]), (.func (.func 69) #[] #[(.pointer (some ⟨b_p2, 0, none⟩)), (.pointer (some ⟨b_q2, 0, none⟩))])] N_s) (hgM : NG lv (doms [N, [(b_v, Obj.cells (vC b_t g x rr false).toArray 68 (0, 0))], N_s, [(b_p, Obj.cells [(.pointer (some ⟨b_v, 0, none⟩))].toArray 27 (0, 0))], [(b_q, Obj.cells [u].toArray 32 (0, 0))], [(b_p2, Obj.cells [(.pointer (some ⟨b_v, 0, none⟩))].toArray 27 (0, 0))], [(b_q2, Obj.cells [I ((0 : Nat) : Int)].toArray 3 (0, 0))]])) (hH : HS (doms [N, [(b_v, Obj.cells (vC b_t g x rr false).toArray 68 (0, 0))], N_s, [(b_p, Obj.cells [(.pointer (some ⟨b_v, 0, none⟩))].toArray 27 (0, 0))], [(b_q, Obj.cells [u].toArray 32 (0, 0))], [(b_p2, Obj.cells [(.pointer (some ⟨b_v, 0, none⟩))].toArray 27 (0, 0))], [(b_q2, Obj.cells [I ((0 : Nat) : Int)].toArray 3 (0, 0))]]) w0 w0 [N, [(b_v, Obj.cells (vC b_t g x rr false).toArray 68 (0, 0))], N_s, [(b_p, Obj.cells [(.pointer (some ⟨b_v, 0, none⟩))].toArray 27 (0, 0))], [(b_q, Obj.cells [u].toArray 32 (0, 0))], [(b_p2, Obj.cells [(.pointer (some ⟨b_v, 0, none⟩))].toArray 27 (0, 0))], [(b_q2, Obj.cells [I ((0 : Nat) : Int)].toArray 3 (0, 0))]]) :
    Calls Tryd.prog 43 #[(.pointer (some ⟨b_v, 0, none⟩)), v_s] w0 (Ret fun r w' => ∃ N', r = I (addS g l T).1 ∧ TM 5 76 66 b_t (addS g l T).2 N' ∧ HS (doms [N, [(b_v, Obj.cells (vC b_t g x rr false).toArray 68 (0, 0))], N_s, [(b_p, Obj.cells [(.pointer (some ⟨b_v, 0, none⟩))].toArray 27 (0, 0))], [(b_q, Obj.cells [u].toArray 32 (0, 0))], [(b_p2, Obj.cells [(.pointer (some ⟨b_v, 0, none⟩))].toArray 27 (0, 0))], [(b_q2, Obj.cells [I ((0 : Nat) : Int)].toArray 3 (0, 0))]]) w0 w' [N', [(b_v, Obj.cells (vC b_t g x rr (decide ((addS g l T).1 = 100))).toArray 68 (0, 0))], N_s, [(b_p, Obj.cells [(.pointer (some ⟨b_v, 0, none⟩))].toArray 27 (0, 0))], [(b_q, Obj.cells [u].toArray 32 (0, 0))], [(b_p2, Obj.cells [(.pointer (some ⟨b_v, 0, none⟩))].toArray 27 (0, 0))], [(b_q2, Obj.cells [I ((0 : Nat) : Int)].toArray 3 (0, 0))]]) := by
 refine start (n := 31) (E := [(0, _), (1, _)]) Tryd.func43 rfl rfl rfl (args_look rfl) ?_
 intro a hA
 have hwl := wf_len (g := g) (b := l) hg40 hl
 have hB0 : Rdy (stgT (stA g l) T 0) 4000 := hB
 have hB1 : Rdy (stgT (stA g l) T 1) (4000 + (wf (rec' g l)).length) := hB0.app 0 _
 refine wp_seq_k fun K1 hK1 => ?_
 refine wp_region_lit ?_
 refine asg hA fun a hA => ?_
 refine wpList_nil ?_
 refine hK1 _ _ ?_
 clear hK1
 refine wp_seq_k fun K2 hK2 => ?_
 refine wp_seq_k fun K3 hK3 => ?_
 refine wp_region_lit ?_
 refine mv hA fun a hA => ?_
 refine sq hA (q_len Tryd.underlying104 rfl (Own.shp hO_s)) rfl fun a hA => ?_
 refine mv hA fun a hA => ?_
 refine wpList_nil ?_
 refine hK3 _ _ ?_
 clear hK3
 replace hA := hA.s5 10 9 8 4 0
 refine wp_block ?_
 refine wp_loop_ghost (fun gm a w => ∃ j : Nat, ∃ N_t : Hl, At 31 [(10, I j), (9, I 2), (8, v_s), (4, (I 0)), (0, (.pointer (some ⟨b_v, 0, none⟩)))] a ∧ HS (doms [N, [(b_v, Obj.cells (vC b_t g x rr false).toArray 68 (0, 0))], N_s, [(b_p, Obj.cells [(.pointer (some ⟨b_v, 0, none⟩))].toArray 27 (0, 0))], [(b_q, Obj.cells [u].toArray 32 (0, 0))], [(b_p2, Obj.cells [(.pointer (some ⟨b_v, 0, none⟩))].toArray 27 (0, 0))], [(b_q2, Obj.cells [I ((0 : Nat) : Int)].toArray 3 (0, 0))]]) w0 w ([N_t, [(b_v, Obj.cells (vC b_t g x rr false).toArray 68 (0, 0))], N_s, [(b_p, Obj.cells [(.pointer (some ⟨b_v, 0, none⟩))].toArray 27 (0, 0))], [(b_q, Obj.cells [u].toArray 32 (0, 0))], [(b_p2, Obj.cells [(.pointer (some ⟨b_v, 0, none⟩))].toArray 27 (0, 0))], [(b_q2, Obj.cells [I ((0 : Nat) : Int)].toArray 3 (0, 0))]]) ∧ (j ≤ 2) ∧ (TM 5 76 66 b_t (stgT (stA g l) T j) N_t) ∧ (∀ m < j, ((stA g l) m (stgT (stA g l) T m)).1 = 0) ∧ gm = 2 - j) (2 - (0)) ⟨0, N, hA.sub ⟨rfl, rfl, rfl, rfl, rfl, trivial⟩, hH, by omega, by exact hT, by exact fun m hm => absurd hm (Nat.not_lt_zero m), rfl⟩ ?_
 clear hA hH
 rintro gm a w ⟨j, N_t, hA, hH, hj, hT', hok, rfl⟩
 refine wp_seq_k fun K4 hK4 => ?_
 refine wp_region_lit ?_
 refine sq hA (q_lssI rfl rfl) rfl fun a hA => ?_
 rcases (show j = 0 ∨ j = 1 ∨ j = 2 by omega) with rfl | rfl | rfl
 ·skip
  replace hA := hA.decT (by decide)
  refine wpList_nil ?_
  refine hK4 _ _ ?_
  clear hK4
  refine wp_seq_k fun K5 hK5 => ?_
  refine cond_t hA rfl ?_
  refine wp_skip ?_
  refine hK5 _ _ ?_
  clear hK5
  refine wp_seq_k fun K6 hK6 => ?_
  refine wp_block ?_
  refine wp_seq_k fun K7 hK7 => ?_
  refine wp_region_lit ?_
  refine sq hA (q_idx1 (0) Tryd.underlying104 ti84 rfl rfl (by first | omega | rfl) (Own.shp hO_s) (by first | omega | (simp; done) | (simp; omega) | (rw [List.length_map]; assumption) | assumption | rfl | (simp [*]; done) | (simp [*]; omega))) rfl fun a hA => ?_
  refine sq hA (q_loadR Tryd.underlying84 rfl rfl (Own.rd0 hO_s hH 2 rfl) (by first | omega | (simp; done) | (simp; omega) | (rw [List.length_map]; assumption) | assumption | rfl | (simp [*]; done) | (simp [*]; omega)) rfl) rfl fun a hA => ?_
  refine asg hA fun a hA => ?_
  refine wpList_nil ?_
  refine hK7 _ _ ?_
  clear hK7
  refine wp_seq_k fun K8 hK8 => ?_
  refine wp_region_lit ?_
  refine mv hA fun a hA => ?_
  replace hH := hH.pick [0, 1, 3, 4, 2, 5, 6] (Hs' := [_, _, _, _, _, _, _]) rfl
  refine sl hA (lo_callv (first := _) (cap := _) fn44 rfl rfl (addc_any b_v b_t g x rr false (stgT (stA g l) T 0) N_t hT' hB0.fz b_p b_q u l (hg.mono hH hgM) (Gl.ngs (Ns1 := [_, _, _, _]) hg hgM hH) hg40 (HS.rdM (Ns1 := [_, _, _, _]) hH hu) hl (Nat.le_trans (hB0.op _) (by omega)) (HS.handed (Ns1 := [_, _, _, _]) hH))) rfl ?_
  rintro _ w ⟨N_t, rfl, hT', hC⟩ a hA
  replace hH := HS.call (Ns1 := [_, _, _, _]) hH hC
  clear hC
  refine asg hA fun a hA => ?_
  refine wpList_nil ?_
  refine hK8 _ _ ?_
  clear hK8
  refine wp_seq_k fun K9 hK9 => ?_
  refine wp_region_lit ?_
  refine mv hA fun a hA => ?_
  refine sq hA (q_neqI (n := 0) rfl rfl) rfl fun a hA => ?_
  refine wpList_nil ?_
  refine hK9 _ _ ?_
  clear hK9
  refine cond_d hA rfl (fun hc17 => ?_) (fun hc17 => ?_)
  ·skip
   have hE : ((stA g l) 0 (stgT (stA g l) T 0)).1 ≠ 0 := by have q : (((stA g l) 0 (stgT (stA g l) T 0)).1 : Int) ≠ 0 := hc17; omega
   refine wp_seq_k fun K10 hK10 => ?_
   refine wp_region_lit ?_
   refine mv hA fun a hA => ?_
   refine mv hA fun a hA => ?_
   refine sq hA (q_nilCheck rfl) rfl fun a hA => ?_
   refine sq hA (q_fld 4 Tryd.underlying68 rfl rfl ti4 rfl) rfl fun a hA => ?_
   refine sq hA (q_loadB hH 1 rfl (List.mem_singleton.2 rfl) Tryd.underlying4 rfl rfl rfl) rfl fun a hA => ?_
   refine mv hA fun a hA => ?_
   refine gq hA rfl rfl (q_move rfl) rfl fun a hA => ?_
   refine gq hA rfl rfl (q_eqlI (n := 100) rfl rfl) rfl fun a hA => ?_
   refine sq hA (q_pick_f rfl rfl) rfl fun a hA => ?_
   refine sq hA (q_nilCheck rfl) rfl fun a hA => ?_
   refine sq hA (q_fld 4 Tryd.underlying68 rfl rfl ti4 rfl) rfl fun a hA => ?_
   replace hH := hH.pick [1, 0, 2, 3, 4, 5, 6] (Hs' := [_, _, _, _, _, _, _]) rfl
   refine s0 hA (lo_store1 hH ti4 rfl rfl ((show 4 < 5 by decide)) rfl) ?_
   clear hH; rintro _ w hH
   rw [vC_down, dec100] at hH
   refine wpList_nil ?_
   refine hK10 _ _ ?_
   clear hK10
   refine wp_seq_k fun K11 hK11 => ?_
   refine wp_region_lit ?_
   refine mv hA fun a hA => ?_
   refine asg hA fun a hA => ?_
   refine wpList_nil ?_
   refine hK11 _ _ ?_
   clear hK11
   refine wp_ret ?_
   refine block_ret ?_
   refine then_ret ?_
   refine then_ret ?_
   refine block_ret ?_
   refine then_ret ?_
   refine post_ret hA (res_1 rfl hA rfl) ?_
   replace hH := hH.pick [1, 0, 4, 2, 3, 5, 6] (Hs' := [_, _, _, _, _, _, _]) rfl
   rw [addS_0 (T := T) hE]; exact ⟨_, rfl, N_t, rfl, hT', hH⟩
  ·skip
   have hE : ((stA g l) 0 (stgT (stA g l) T 0)).1 = 0 := by have q : (((stA g l) 0 (stgT (stA g l) T 0)).1 : Int) = 0 := Classical.not_not.1 hc17; omega
   refine wp_skip ?_
   refine block_normal ?_
   refine hK6 _ _ ?_
   clear hK6
   refine wp_region_lit ?_
   refine sq hA (q_addI (n := 1) rfl rfl (by omega)) rfl fun a hA => ?_
   refine mv hA fun a hA => ?_
   refine wpList_nil ?_
   replace hH := hH.pick [0, 1, 4, 2, 3, 5, 6] (Hs' := [_, _, _, _, _, _, _]) rfl
   exact ⟨_, by omega, 1, N_t, hA.sub ⟨rfl, rfl, rfl, rfl, rfl, trivial⟩, hH, by omega, by exact hT', by (intro m hm; rcases Nat.lt_succ_iff_lt_or_eq.1 hm with h | h; exact hok m h; rw [h]; exact hE), rfl⟩
 ·skip
  replace hA := hA.decT (by decide)
  refine wpList_nil ?_
  refine hK4 _ _ ?_
  clear hK4
  refine wp_seq_k fun K12 hK12 => ?_
  refine cond_t hA rfl ?_
  refine wp_skip ?_
  refine hK12 _ _ ?_
  clear hK12
  refine wp_seq_k fun K13 hK13 => ?_
  refine wp_block ?_
  refine wp_seq_k fun K14 hK14 => ?_
  refine wp_region_lit ?_
  refine sq hA (q_idx1 (1) Tryd.underlying104 ti84 rfl rfl (by first | omega | rfl) (Own.shp hO_s) (by first | omega | (simp; done) | (simp; omega) | (rw [List.length_map]; assumption) | assumption | rfl | (simp [*]; done) | (simp [*]; omega))) rfl fun a hA => ?_
  refine sq hA (q_loadR Tryd.underlying84 rfl rfl (Own.rd0 hO_s hH 2 rfl) (by first | omega | (simp; done) | (simp; omega) | (rw [List.length_map]; assumption) | assumption | rfl | (simp [*]; done) | (simp [*]; omega)) rfl) rfl fun a hA => ?_
  refine asg hA fun a hA => ?_
  refine wpList_nil ?_
  refine hK14 _ _ ?_
  clear hK14
  refine wp_seq_k fun K15 hK15 => ?_
  refine wp_region_lit ?_
  refine mv hA fun a hA => ?_
  replace hH := hH.pick [0, 1, 5, 6, 2, 3, 4] (Hs' := [_, _, _, _, _, _, _]) rfl
  refine sl hA (lo_callv (first := _) (cap := _) fn69 rfl rfl (syncc_any b_v b_t g x rr false (stgT (stA g l) T 1) N_t hT' hB1.fz b_p2 b_q2 0 (by decide) (Nat.le_trans (hB1.op _) (by omega)) (hB1.now _) (HS.handed (Ns1 := [_, _, _, _]) hH))) rfl ?_
  rintro _ w ⟨N_t, rfl, hT', hC⟩ a hA
  replace hH := HS.call (Ns1 := [_, _, _, _]) hH hC
  clear hC
  refine asg hA fun a hA => ?_
  refine wpList_nil ?_
  refine hK15 _ _ ?_
  clear hK15
  refine wp_seq_k fun K16 hK16 => ?_
  refine wp_region_lit ?_
  refine mv hA fun a hA => ?_
  refine sq hA (q_neqI (n := 0) rfl rfl) rfl fun a hA => ?_
  refine wpList_nil ?_
  refine hK16 _ _ ?_
  clear hK16
  refine cond_d hA rfl (fun hc17 => ?_) (fun hc17 => ?_)
  ·skip
   have hE : ((stA g l) 1 (stgT (stA g l) T 1)).1 ≠ 0 := by have q : (((stA g l) 1 (stgT (stA g l) T 1)).1 : Int) ≠ 0 := hc17; omega
   refine wp_seq_k fun K17 hK17 => ?_
   refine wp_region_lit ?_
   refine mv hA fun a hA => ?_
   refine mv hA fun a hA => ?_
   refine sq hA (q_nilCheck rfl) rfl fun a hA => ?_
   refine sq hA (q_fld 4 Tryd.underlying68 rfl rfl ti4 rfl) rfl fun a hA => ?_
   refine sq hA (q_loadB hH 1 rfl (List.mem_singleton.2 rfl) Tryd.underlying4 rfl rfl rfl) rfl fun a hA => ?_
   refine mv hA fun a hA => ?_
   refine gq hA rfl rfl (q_move rfl) rfl fun a hA => ?_
   refine gq hA rfl rfl (q_eqlI (n := 100) rfl rfl) rfl fun a hA => ?_
   refine sq hA (q_pick_f rfl rfl) rfl fun a hA => ?_
   refine sq hA (q_nilCheck rfl) rfl fun a hA => ?_
   refine sq hA (q_fld 4 Tryd.underlying68 rfl rfl ti4 rfl) rfl fun a hA => ?_
   replace hH := hH.pick [1, 0, 2, 3, 4, 5, 6] (Hs' := [_, _, _, _, _, _, _]) rfl
   refine s0 hA (lo_store1 hH ti4 rfl rfl ((show 4 < 5 by decide)) rfl) ?_
   clear hH; rintro _ w hH
   rw [vC_down, dec100] at hH
   refine wpList_nil ?_
   refine hK17 _ _ ?_
   clear hK17
   refine wp_seq_k fun K18 hK18 => ?_
   refine wp_region_lit ?_
   refine mv hA fun a hA => ?_
   refine asg hA fun a hA => ?_
   refine wpList_nil ?_
   refine hK18 _ _ ?_
   clear hK18
   refine wp_ret ?_
   refine block_ret ?_
   refine then_ret ?_
   refine then_ret ?_
   refine block_ret ?_
   refine then_ret ?_
   refine post_ret hA (res_1 rfl hA rfl) ?_
   replace hH := hH.pick [1, 0, 4, 5, 6, 2, 3] (Hs' := [_, _, _, _, _, _, _]) rfl
   rw [addS_1 (T := T) (fun m hm => hok m (by omega))]; exact ⟨_, rfl, N_t, rfl, hT', hH⟩
  ·skip
   have hE : ((stA g l) 1 (stgT (stA g l) T 1)).1 = 0 := by have q : (((stA g l) 1 (stgT (stA g l) T 1)).1 : Int) = 0 := Classical.not_not.1 hc17; omega
   refine wp_skip ?_
   refine block_normal ?_
   refine hK13 _ _ ?_
   clear hK13
   refine wp_region_lit ?_
   refine sq hA (q_addI (n := 1) rfl rfl (by omega)) rfl fun a hA => ?_
   refine mv hA fun a hA => ?_
   refine wpList_nil ?_
   replace hH := hH.pick [0, 1, 4, 5, 6, 2, 3] (Hs' := [_, _, _, _, _, _, _]) rfl
   exact ⟨_, by omega, 2, N_t, hA.sub ⟨rfl, rfl, rfl, rfl, rfl, trivial⟩, hH, by omega, by exact hT', by (intro m hm; rcases Nat.lt_succ_iff_lt_or_eq.1 hm with h | h; exact hok m h; rw [h]; exact hE), rfl⟩
 ·skip
  replace hA := hA.decF (by decide)
  refine wpList_nil ?_
  refine hK4 _ _ ?_
  clear hK4
  refine wp_seq_k fun K19 hK19 => ?_
  refine cond_f hA rfl ?_
  refine wp_exit ?_
  refine then_exit ?_
  refine then_exit ?_
  refine exit_here ?_
  refine hK2 _ _ ?_
  clear hK2
  replace hA := hA.s1 4
  refine wp_seq_k fun K20 hK20 => ?_
  refine wp_region_lit ?_
  refine asg hA fun a hA => ?_
  refine wpList_nil ?_
  refine hK20 _ _ ?_
  clear hK20
  refine wp_ret ?_
  refine post_ret hA (res_1 rfl hA rfl) ?_
  rw [addS_1 (T := T) (fun m hm => hok m (by omega))]
  rw [show decide (((stA g l) 1 (stgT (stA g l) T 1)).1 = 100) = false by rw [hok 1 (by omega)]; rfl]
  exact ⟨_, rfl, N_t, by rw [hok 1 (by omega)]; rfl, hT', hH⟩

set_option maxHeartbeats 1000000 in
theorem allR {w0 : World} {lv : Nat} (hg : Gl lv w0) (b_v b_t g : Nat) (x rr : Value) (T : Tp) (N : Hl) (hT : TM 5 76 66 b_t T N) (hB : Rdy T 4000) (v_s : Value) (N_s : Hl) (b_p b_q b_p2 b_q2 : Nat) (n : Nat) (hnn : n ≤ (T.fs 0).now.length) (hO_s : Own 84 1 v_s 2 [(.func (.func 61) #[] #[(.pointer (some ⟨b_p, 0, none⟩)), (.pointer (some ⟨b_q, 0, none⟩))]), (.func (.func 69) #[] #[(.pointer (some ⟨b_p2, 0, none⟩)), (.pointer (some ⟨b_q2, 0, none⟩))])] N_s) (hgM : NG lv (doms [N, [(b_v, Obj.cells (vC b_t g x rr false).toArray 68 (0, 0))], N_s, [(b_p, Obj.cells [(.pointer (some ⟨b_v, 0, none⟩))].toArray 27 (0, 0))], [(b_q, Obj.cells [I n].toArray 3 (0, 0))], [(b_p2, Obj.cells [(.pointer (some ⟨b_v, 0, none⟩))].toArray 27 (0, 0))], [(b_q2, Obj.cells [I ((0 : Nat) : Int)].toArray 3 (0, 0))]])) (hH : HS (doms [N, [(b_v, Obj.cells (vC b_t g x rr false).toArray 68 (0, 0))], N_s, [(b_p, Obj.cells [(.pointer (some ⟨b_v, 0, none⟩))].toArray 27 (0, 0))], [(b_q, Obj.cells [I n].toArray 3 (0, 0))], [(b_p2, Obj.cells [(.pointer (some ⟨b_v, 0, none⟩))].toArray 27 (0, 0))], [(b_q2, Obj.cells [I ((0 : Nat) : Int)].toArray 3 (0, 0))]]) w0 w0 [N, [(b_v, Obj.cells (vC b_t g x rr false).toArray 68 (0, 0))], N_s, [(b_p, Obj.cells [(.pointer (some ⟨b_v, 0, none⟩))].toArray 27 (0, 0))], [(b_q, Obj.cells [I n].toArray 3 (0, 0))], [(b_p2, Obj.cells [(.pointer (some ⟨b_v, 0, none⟩))].toArray 27 (0, 0))], [(b_q2, Obj.cells [I ((0 : Nat) : Int)].toArray 3 (0, 0))]]) :
    Calls Tryd.prog 43 #[(.pointer (some ⟨b_v, 0, none⟩)), v_s] w0 (Ret fun r w' => ∃ N', r = I (mendS n T).1 ∧ TM 5 76 66 b_t (mendS n T).2 N' ∧ HS (doms [N, [(b_v, Obj.cells (vC b_t g x rr false).toArray 68 (0, 0))], N_s, [(b_p, Obj.cells [(.pointer (some ⟨b_v, 0, none⟩))].toArray 27 (0, 0))], [(b_q, Obj.cells [I n].toArray 3 (0, 0))], [(b_p2, Obj.cells [(.pointer (some ⟨b_v, 0, none⟩))].toArray 27 (0, 0))], [(b_q2, Obj.cells [I ((0 : Nat) : Int)].toArray 3 (0, 0))]]) w0 w' [N', [(b_v, Obj.cells (vC b_t g x rr (decide ((mendS n T).1 = 100))).toArray 68 (0, 0))], N_s, [(b_p, Obj.cells [(.pointer (some ⟨b_v, 0, none⟩))].toArray 27 (0, 0))], [(b_q, Obj.cells [I n].toArray 3 (0, 0))], [(b_p2, Obj.cells [(.pointer (some ⟨b_v, 0, none⟩))].toArray 27 (0, 0))], [(b_q2, Obj.cells [I ((0 : Nat) : Int)].toArray 3 (0, 0))]]) := by
 refine start (n := 31) (E := [(0, _), (1, _)]) Tryd.func43 rfl rfl rfl (args_look rfl) ?_
 intro a hA
 have hB0 : Rdy (stgT (stR n) T 0) 4000 := hB
 have hB1 : Rdy (stgT (stR n) T 1) (4000 + 1) := hB0.cut 0 hnn
 refine wp_seq_k fun K1 hK1 => ?_
 refine wp_region_lit ?_
 refine asg hA fun a hA => ?_
 refine wpList_nil ?_
 refine hK1 _ _ ?_
 clear hK1
 refine wp_seq_k fun K2 hK2 => ?_
 refine wp_seq_k fun K3 hK3 => ?_
 refine wp_region_lit ?_
 refine mv hA fun a hA => ?_
 refine sq hA (q_len Tryd.underlying104 rfl (Own.shp hO_s)) rfl fun a hA => ?_
 refine mv hA fun a hA => ?_
 refine wpList_nil ?_
 refine hK3 _ _ ?_
 clear hK3
 replace hA := hA.s5 10 9 8 4 0
 refine wp_block ?_
 refine wp_loop_ghost (fun gm a w => ∃ j : Nat, ∃ N_t : Hl, At 31 [(10, I j), (9, I 2), (8, v_s), (4, (I 0)), (0, (.pointer (some ⟨b_v, 0, none⟩)))] a ∧ HS (doms [N, [(b_v, Obj.cells (vC b_t g x rr false).toArray 68 (0, 0))], N_s, [(b_p, Obj.cells [(.pointer (some ⟨b_v, 0, none⟩))].toArray 27 (0, 0))], [(b_q, Obj.cells [I n].toArray 3 (0, 0))], [(b_p2, Obj.cells [(.pointer (some ⟨b_v, 0, none⟩))].toArray 27 (0, 0))], [(b_q2, Obj.cells [I ((0 : Nat) : Int)].toArray 3 (0, 0))]]) w0 w ([N_t, [(b_v, Obj.cells (vC b_t g x rr false).toArray 68 (0, 0))], N_s, [(b_p, Obj.cells [(.pointer (some ⟨b_v, 0, none⟩))].toArray 27 (0, 0))], [(b_q, Obj.cells [I n].toArray 3 (0, 0))], [(b_p2, Obj.cells [(.pointer (some ⟨b_v, 0, none⟩))].toArray 27 (0, 0))], [(b_q2, Obj.cells [I ((0 : Nat) : Int)].toArray 3 (0, 0))]]) ∧ (j ≤ 2) ∧ (TM 5 76 66 b_t (stgT (stR n) T j) N_t) ∧ (∀ m < j, ((stR n) m (stgT (stR n) T m)).1 = 0) ∧ gm = 2 - j) (2 - (0)) ⟨0, N, hA.sub ⟨rfl, rfl, rfl, rfl, rfl, trivial⟩, hH, by omega, by exact hT, by exact fun m hm => absurd hm (Nat.not_lt_zero m), rfl⟩ ?_
 clear hA hH
 rintro gm a w ⟨j, N_t, hA, hH, hj, hT', hok, rfl⟩
 refine wp_seq_k fun K4 hK4 => ?_
 refine wp_region_lit ?_
 refine sq hA (q_lssI rfl rfl) rfl fun a hA => ?_
 rcases (show j = 0 ∨ j = 1 ∨ j = 2 by omega) with rfl | rfl | rfl
 ·skip
  replace hA := hA.decT (by decide)
  refine wpList_nil ?_
  refine hK4 _ _ ?_
  clear hK4
  refine wp_seq_k fun K5 hK5 => ?_
  refine cond_t hA rfl ?_
  refine wp_skip ?_
  refine hK5 _ _ ?_
  clear hK5
  refine wp_seq_k fun K6 hK6 => ?_
  refine wp_block ?_
  refine wp_seq_k fun K7 hK7 => ?_
  refine wp_region_lit ?_
  refine sq hA (q_idx1 (0) Tryd.underlying104 ti84 rfl rfl (by first | omega | rfl) (Own.shp hO_s) (by first | omega | (simp; done) | (simp; omega) | (rw [List.length_map]; assumption) | assumption | rfl | (simp [*]; done) | (simp [*]; omega))) rfl fun a hA => ?_
  refine sq hA (q_loadR Tryd.underlying84 rfl rfl (Own.rd0 hO_s hH 2 rfl) (by first | omega | (simp; done) | (simp; omega) | (rw [List.length_map]; assumption) | assumption | rfl | (simp [*]; done) | (simp [*]; omega)) rfl) rfl fun a hA => ?_
  refine asg hA fun a hA => ?_
  refine wpList_nil ?_
  refine hK7 _ _ ?_
  clear hK7
  refine wp_seq_k fun K8 hK8 => ?_
  refine wp_region_lit ?_
  refine mv hA fun a hA => ?_
  replace hH := hH.pick [0, 1, 3, 4, 2, 5, 6] (Hs' := [_, _, _, _, _, _, _]) rfl
  refine sl hA (lo_callv (first := _) (cap := _) fn61 rfl rfl (replayc_any b_v b_t g x rr false (stgT (stR n) T 0) N_t hT' hB0.fz b_p b_q n (Nat.le_trans (hB0.op _) (by omega)) hnn (HS.handed (Ns1 := [_, _, _, _]) hH))) rfl ?_
  rintro _ w ⟨N_t, rfl, hT', hC⟩ a hA
  replace hH := HS.call (Ns1 := [_, _, _, _]) hH hC
  clear hC
  refine asg hA fun a hA => ?_
  refine wpList_nil ?_
  refine hK8 _ _ ?_
  clear hK8
  refine wp_seq_k fun K9 hK9 => ?_
  refine wp_region_lit ?_
  refine mv hA fun a hA => ?_
  refine sq hA (q_neqI (n := 0) rfl rfl) rfl fun a hA => ?_
  refine wpList_nil ?_
  refine hK9 _ _ ?_
  clear hK9
  refine cond_d hA rfl (fun hc17 => ?_) (fun hc17 => ?_)
  ·skip
   have hE : ((stR n) 0 (stgT (stR n) T 0)).1 ≠ 0 := by have q : (((stR n) 0 (stgT (stR n) T 0)).1 : Int) ≠ 0 := hc17; omega
   refine wp_seq_k fun K10 hK10 => ?_
   refine wp_region_lit ?_
   refine mv hA fun a hA => ?_
   refine mv hA fun a hA => ?_
   refine sq hA (q_nilCheck rfl) rfl fun a hA => ?_
   refine sq hA (q_fld 4 Tryd.underlying68 rfl rfl ti4 rfl) rfl fun a hA => ?_
   refine sq hA (q_loadB hH 1 rfl (List.mem_singleton.2 rfl) Tryd.underlying4 rfl rfl rfl) rfl fun a hA => ?_
   refine mv hA fun a hA => ?_
   refine gq hA rfl rfl (q_move rfl) rfl fun a hA => ?_
   refine gq hA rfl rfl (q_eqlI (n := 100) rfl rfl) rfl fun a hA => ?_
   refine sq hA (q_pick_f rfl rfl) rfl fun a hA => ?_
   refine sq hA (q_nilCheck rfl) rfl fun a hA => ?_
   refine sq hA (q_fld 4 Tryd.underlying68 rfl rfl ti4 rfl) rfl fun a hA => ?_
   replace hH := hH.pick [1, 0, 2, 3, 4, 5, 6] (Hs' := [_, _, _, _, _, _, _]) rfl
   refine s0 hA (lo_store1 hH ti4 rfl rfl ((show 4 < 5 by decide)) rfl) ?_
   clear hH; rintro _ w hH
   rw [vC_down, dec100] at hH
   refine wpList_nil ?_
   refine hK10 _ _ ?_
   clear hK10
   refine wp_seq_k fun K11 hK11 => ?_
   refine wp_region_lit ?_
   refine mv hA fun a hA => ?_
   refine asg hA fun a hA => ?_
   refine wpList_nil ?_
   refine hK11 _ _ ?_
   clear hK11
   refine wp_ret ?_
   refine block_ret ?_
   refine then_ret ?_
   refine then_ret ?_
   refine block_ret ?_
   refine then_ret ?_
   refine post_ret hA (res_1 rfl hA rfl) ?_
   replace hH := hH.pick [1, 0, 4, 2, 3, 5, 6] (Hs' := [_, _, _, _, _, _, _]) rfl
   rw [mendS_0 (T := T) hE]; exact ⟨_, rfl, N_t, rfl, hT', hH⟩
  ·skip
   have hE : ((stR n) 0 (stgT (stR n) T 0)).1 = 0 := by have q : (((stR n) 0 (stgT (stR n) T 0)).1 : Int) = 0 := Classical.not_not.1 hc17; omega
   refine wp_skip ?_
   refine block_normal ?_
   refine hK6 _ _ ?_
   clear hK6
   refine wp_region_lit ?_
   refine sq hA (q_addI (n := 1) rfl rfl (by omega)) rfl fun a hA => ?_
   refine mv hA fun a hA => ?_
   refine wpList_nil ?_
   replace hH := hH.pick [0, 1, 4, 2, 3, 5, 6] (Hs' := [_, _, _, _, _, _, _]) rfl
   exact ⟨_, by omega, 1, N_t, hA.sub ⟨rfl, rfl, rfl, rfl, rfl, trivial⟩, hH, by omega, by exact hT', by (intro m hm; rcases Nat.lt_succ_iff_lt_or_eq.1 hm with h | h; exact hok m h; rw [h]; exact hE), rfl⟩
 ·skip
  replace hA := hA.decT (by decide)
  refine wpList_nil ?_
  refine hK4 _ _ ?_
  clear hK4
  refine wp_seq_k fun K12 hK12 => ?_
  refine cond_t hA rfl ?_
  refine wp_skip ?_
  refine hK12 _ _ ?_
  clear hK12
  refine wp_seq_k fun K13 hK13 => ?_
  refine wp_block ?_
  refine wp_seq_k fun K14 hK14 => ?_
  refine wp_region_lit ?_
  refine sq hA (q_idx1 (1) Tryd.underlying104 ti84 rfl rfl (by first | omega | rfl) (Own.shp hO_s) (by first | omega | (simp; done) | (simp; omega) | (rw [List.length_map]; assumption) | assumption | rfl | (simp [*]; done) | (simp [*]; omega))) rfl fun a hA => ?_
  refine sq hA (q_loadR Tryd.underlying84 rfl rfl (Own.rd0 hO_s hH 2 rfl) (by first | omega | (simp; done) | (simp; omega) | (rw [List.length_map]; assumption) | assumption | rfl | (simp [*]; done) | (simp [*]; omega)) rfl) rfl fun a hA => ?_
  refine asg hA fun a hA => ?_
  refine wpList_nil ?_
  refine hK14 _ _ ?_
  clear hK14
  refine wp_seq_k fun K15 hK15 => ?_
  refine wp_region_lit ?_
  refine mv hA fun a hA => ?_
  replace hH := hH.pick [0, 1, 5, 6, 2, 3, 4] (Hs' := [_, _, _, _, _, _, _]) rfl
  refine sl hA (lo_callv (first := _) (cap := _) fn69 rfl rfl (syncc_any b_v b_t g x rr false (stgT (stR n) T 1) N_t hT' hB1.fz b_p2 b_q2 0 (by decide) (Nat.le_trans (hB1.op _) (by omega)) (hB1.now _) (HS.handed (Ns1 := [_, _, _, _]) hH))) rfl ?_
  rintro _ w ⟨N_t, rfl, hT', hC⟩ a hA
  replace hH := HS.call (Ns1 := [_, _, _, _]) hH hC
  clear hC
  refine asg hA fun a hA => ?_
  refine wpList_nil ?_
  refine hK15 _ _ ?_
  clear hK15
  refine wp_seq_k fun K16 hK16 => ?_
  refine wp_region_lit ?_
  refine mv hA fun a hA => ?_
  refine sq hA (q_neqI (n := 0) rfl rfl) rfl fun a hA => ?_
  refine wpList_nil ?_
  refine hK16 _ _ ?_
  clear hK16
  refine cond_d hA rfl (fun hc17 => ?_) (fun hc17 => ?_)
  ·skip
   have hE : ((stR n) 1 (stgT (stR n) T 1)).1 ≠ 0 := by have q : (((stR n) 1 (stgT (stR n) T 1)).1 : Int) ≠ 0 := hc17; omega
   refine wp_seq_k fun K17 hK17 => ?_
   refine wp_region_lit ?_
   refine mv hA fun a hA => ?_
   refine mv hA fun a hA => ?_
   refine sq hA (q_nilCheck rfl) rfl fun a hA => ?_
   refine sq hA (q_fld 4 Tryd.underlying68 rfl rfl ti4 rfl) rfl fun a hA => ?_
   refine sq hA (q_loadB hH 1 rfl (List.mem_singleton.2 rfl) Tryd.underlying4 rfl rfl rfl) rfl fun a hA => ?_
   refine mv hA fun a hA => ?_
   refine gq hA rfl rfl (q_move rfl) rfl fun a hA => ?_
   refine gq hA rfl rfl (q_eqlI (n := 100) rfl rfl) rfl fun a hA => ?_
   refine sq hA (q_pick_f rfl rfl) rfl fun a hA => ?_
   refine sq hA (q_nilCheck rfl) rfl fun a hA => ?_
   refine sq hA (q_fld 4 Tryd.underlying68 rfl rfl ti4 rfl) rfl fun a hA => ?_
   replace hH := hH.pick [1, 0, 2, 3, 4, 5, 6] (Hs' := [_, _, _, _, _, _, _]) rfl
   refine s0 hA (lo_store1 hH ti4 rfl rfl ((show 4 < 5 by decide)) rfl) ?_
   clear hH; rintro _ w hH
   rw [vC_down, dec100] at hH
   refine wpList_nil ?_
   refine hK17 _ _ ?_
   clear hK17
   refine wp_seq_k fun K18 hK18 => ?_
   refine wp_region_lit ?_
   refine mv hA fun a hA => ?_
   refine asg hA fun a hA => ?_
   refine wpList_nil ?_
   refine hK18 _ _ ?_
   clear hK18
   refine wp_ret ?_
   refine block_ret ?_
   refine then_ret ?_
   refine then_ret ?_
   refine block_ret ?_
   refine then_ret ?_
   refine post_ret hA (res_1 rfl hA rfl) ?_
   replace hH := hH.pick [1, 0, 4, 5, 6, 2, 3] (Hs' := [_, _, _, _, _, _, _]) rfl
   rw [mendS_1 (T := T) (fun m hm => hok m (by omega))]; exact ⟨_, rfl, N_t, rfl, hT', hH⟩
  ·skip
   have hE : ((stR n) 1 (stgT (stR n) T 1)).1 = 0 := by have q : (((stR n) 1 (stgT (stR n) T 1)).1 : Int) = 0 := Classical.not_not.1 hc17; omega
   refine wp_skip ?_
   refine block_normal ?_
   refine hK13 _ _ ?_
   clear hK13
   refine wp_region_lit ?_
   refine sq hA (q_addI (n := 1) rfl rfl (by omega)) rfl fun a hA => ?_
   refine mv hA fun a hA => ?_
   refine wpList_nil ?_
   replace hH := hH.pick [0, 1, 4, 5, 6, 2, 3] (Hs' := [_, _, _, _, _, _, _]) rfl
   exact ⟨_, by omega, 2, N_t, hA.sub ⟨rfl, rfl, rfl, rfl, rfl, trivial⟩, hH, by omega, by exact hT', by (intro m hm; rcases Nat.lt_succ_iff_lt_or_eq.1 hm with h | h; exact hok m h; rw [h]; exact hE), rfl⟩
 ·skip
  replace hA := hA.decF (by decide)
  refine wpList_nil ?_
  refine hK4 _ _ ?_
  clear hK4
  refine wp_seq_k fun K19 hK19 => ?_
  refine cond_f hA rfl ?_
  refine wp_exit ?_
  refine then_exit ?_
  refine then_exit ?_
  refine exit_here ?_
  refine hK2 _ _ ?_
  clear hK2
  replace hA := hA.s1 4
  refine wp_seq_k fun K20 hK20 => ?_
  refine wp_region_lit ?_
  refine asg hA fun a hA => ?_
  refine wpList_nil ?_
  refine hK20 _ _ ?_
  clear hK20
  refine wp_ret ?_
  refine post_ret hA (res_1 rfl hA rfl) ?_
  rw [mendS_1 (T := T) (fun m hm => hok m (by omega))]
  rw [show decide (((stR n) 1 (stgT (stR n) T 1)).1 = 100) = false by rw [hok 1 (by omega)]; rfl]
  exact ⟨_, rfl, N_t, by rw [hok 1 (by omega)]; rfl, hT', hH⟩

set_option maxHeartbeats 1000000 in
theorem allS {w0 : World} {lv : Nat} (hg : Gl lv w0) (b_v b_t g : Nat) (x rr : Value) (T : Tp) (N : Hl) (hT : TM 5 76 66 b_t T N) (hB : Rdy T 4000) (v_s : Value) (N_s : Hl) (b_p b_sl b_ge b_tx b_p3 b_q3 b_p5 b_q5 : Nat) (u : Value) (l : Bs) (hu : By (doms [N, [(b_v, Obj.cells (vC b_t g x rr false).toArray 68 (0, 0))], N_s, [(b_p, Obj.cells [(.pointer (some ⟨b_v, 0, none⟩))].toArray 27 (0, 0))], [(b_sl, Obj.cells [I ((slotG (g + 1)) : Nat)].toArray 3 (0, 0))], [(b_ge, Obj.cells [I ((g + 1 : Nat) : Int)].toArray 3 (0, 0))], [(b_tx, Obj.cells [u].toArray 32 (0, 0))], [(b_p3, Obj.cells [(.pointer (some ⟨b_v, 0, none⟩))].toArray 27 (0, 0))], [(b_q3, Obj.cells [I ((slotG (g + 1)) : Nat)].toArray 3 (0, 0))], [(b_p5, Obj.cells [(.pointer (some ⟨b_v, 0, none⟩))].toArray 27 (0, 0))], [(b_q5, Obj.cells [I ((0 : Nat) : Int)].toArray 3 (0, 0))]]) w0 u l) (hl : l.length ≤ 262080) (hg40 : g + 1 ≤ 1099511627776) (hO_s : Own 84 1 v_s 5 [(.func (.func 48) #[] #[(.pointer (some ⟨b_p, 0, none⟩)), (.pointer (some ⟨b_sl, 0, none⟩))]), (.func (.func 50) #[] #[(.pointer (some ⟨b_p, 0, none⟩)), (.pointer (some ⟨b_sl, 0, none⟩)), (.pointer (some ⟨b_ge, 0, none⟩)), (.pointer (some ⟨b_tx, 0, none⟩))]), (.func (.func 69) #[] #[(.pointer (some ⟨b_p3, 0, none⟩)), (.pointer (some ⟨b_q3, 0, none⟩))]), (.func (.func 51) #[] #[(.pointer (some ⟨b_p, 0, none⟩))]), (.func (.func 69) #[] #[(.pointer (some ⟨b_p5, 0, none⟩)), (.pointer (some ⟨b_q5, 0, none⟩))])] N_s) (hgM : NG lv (doms [N, [(b_v, Obj.cells (vC b_t g x rr false).toArray 68 (0, 0))], N_s, [(b_p, Obj.cells [(.pointer (some ⟨b_v, 0, none⟩))].toArray 27 (0, 0))], [(b_sl, Obj.cells [I ((slotG (g + 1)) : Nat)].toArray 3 (0, 0))], [(b_ge, Obj.cells [I ((g + 1 : Nat) : Int)].toArray 3 (0, 0))], [(b_tx, Obj.cells [u].toArray 32 (0, 0))], [(b_p3, Obj.cells [(.pointer (some ⟨b_v, 0, none⟩))].toArray 27 (0, 0))], [(b_q3, Obj.cells [I ((slotG (g + 1)) : Nat)].toArray 3 (0, 0))], [(b_p5, Obj.cells [(.pointer (some ⟨b_v, 0, none⟩))].toArray 27 (0, 0))], [(b_q5, Obj.cells [I ((0 : Nat) : Int)].toArray 3 (0, 0))]])) (hH : HS (doms [N, [(b_v, Obj.cells (vC b_t g x rr false).toArray 68 (0, 0))], N_s, [(b_p, Obj.cells [(.pointer (some ⟨b_v, 0, none⟩))].toArray 27 (0, 0))], [(b_sl, Obj.cells [I ((slotG (g + 1)) : Nat)].toArray 3 (0, 0))], [(b_ge, Obj.cells [I ((g + 1 : Nat) : Int)].toArray 3 (0, 0))], [(b_tx, Obj.cells [u].toArray 32 (0, 0))], [(b_p3, Obj.cells [(.pointer (some ⟨b_v, 0, none⟩))].toArray 27 (0, 0))], [(b_q3, Obj.cells [I ((slotG (g + 1)) : Nat)].toArray 3 (0, 0))], [(b_p5, Obj.cells [(.pointer (some ⟨b_v, 0, none⟩))].toArray 27 (0, 0))], [(b_q5, Obj.cells [I ((0 : Nat) : Int)].toArray 3 (0, 0))]]) w0 w0 [N, [(b_v, Obj.cells (vC b_t g x rr false).toArray 68 (0, 0))], N_s, [(b_p, Obj.cells [(.pointer (some ⟨b_v, 0, none⟩))].toArray 27 (0, 0))], [(b_sl, Obj.cells [I ((slotG (g + 1)) : Nat)].toArray 3 (0, 0))], [(b_ge, Obj.cells [I ((g + 1 : Nat) : Int)].toArray 3 (0, 0))], [(b_tx, Obj.cells [u].toArray 32 (0, 0))], [(b_p3, Obj.cells [(.pointer (some ⟨b_v, 0, none⟩))].toArray 27 (0, 0))], [(b_q3, Obj.cells [I ((slotG (g + 1)) : Nat)].toArray 3 (0, 0))], [(b_p5, Obj.cells [(.pointer (some ⟨b_v, 0, none⟩))].toArray 27 (0, 0))], [(b_q5, Obj.cells [I ((0 : Nat) : Int)].toArray 3 (0, 0))]]) :
    Calls Tryd.prog 43 #[(.pointer (some ⟨b_v, 0, none⟩)), v_s] w0 (Ret fun r w' => ∃ N', r = I (saveS (g + 1) l T).1 ∧ TM 5 76 66 b_t (saveS (g + 1) l T).2 N' ∧ HS (doms [N, [(b_v, Obj.cells (vC b_t g x rr false).toArray 68 (0, 0))], N_s, [(b_p, Obj.cells [(.pointer (some ⟨b_v, 0, none⟩))].toArray 27 (0, 0))], [(b_sl, Obj.cells [I ((slotG (g + 1)) : Nat)].toArray 3 (0, 0))], [(b_ge, Obj.cells [I ((g + 1 : Nat) : Int)].toArray 3 (0, 0))], [(b_tx, Obj.cells [u].toArray 32 (0, 0))], [(b_p3, Obj.cells [(.pointer (some ⟨b_v, 0, none⟩))].toArray 27 (0, 0))], [(b_q3, Obj.cells [I ((slotG (g + 1)) : Nat)].toArray 3 (0, 0))], [(b_p5, Obj.cells [(.pointer (some ⟨b_v, 0, none⟩))].toArray 27 (0, 0))], [(b_q5, Obj.cells [I ((0 : Nat) : Int)].toArray 3 (0, 0))]]) w0 w' [N', [(b_v, Obj.cells (vC b_t g x rr (decide ((saveS (g + 1) l T).1 = 100))).toArray 68 (0, 0))], N_s, [(b_p, Obj.cells [(.pointer (some ⟨b_v, 0, none⟩))].toArray 27 (0, 0))], [(b_sl, Obj.cells [I ((slotG (g + 1)) : Nat)].toArray 3 (0, 0))], [(b_ge, Obj.cells [I ((g + 1 : Nat) : Int)].toArray 3 (0, 0))], [(b_tx, Obj.cells [u].toArray 32 (0, 0))], [(b_p3, Obj.cells [(.pointer (some ⟨b_v, 0, none⟩))].toArray 27 (0, 0))], [(b_q3, Obj.cells [I ((slotG (g + 1)) : Nat)].toArray 3 (0, 0))], [(b_p5, Obj.cells [(.pointer (some ⟨b_v, 0, none⟩))].toArray 27 (0, 0))], [(b_q5, Obj.cells [I ((0 : Nat) : Int)].toArray 3 (0, 0))]]) := by
 refine start (n := 31) (E := [(0, _), (1, _)]) Tryd.func43 rfl rfl rfl (args_look rfl) ?_
 intro a hA
 have hi4 : (slotG (g + 1)) < 4 := by have := (slotG_ne (g + 1)).2.1; omega
 have hwl := wf_len (g := g + 1) (b := l) hg40 hl
 have hB0 : Rdy (stgT (stS (g + 1) l) T 0) 4000 := hB
 have hB1 : Rdy (stgT (stS (g + 1) l) T 1) (4000 + 1) := hB0.cut _ (Nat.zero_le _)
 have hB2 : Rdy (stgT (stS (g + 1) l) T 2) (4000 + 1 + (wf (rec' (g + 1) l)).length) := hB1.app _ _
 have hB3 : Rdy (stgT (stS (g + 1) l) T 3) (4000 + 1 + (wf (rec' (g + 1) l)).length) := hB2.sync _
 have hB4 : Rdy (stgT (stS (g + 1) l) T 4) (4000 + 1 + (wf (rec' (g + 1) l)).length + 1) := hB3.cut 0 (Nat.zero_le _)
 refine wp_seq_k fun K1 hK1 => ?_
 refine wp_region_lit ?_
 refine asg hA fun a hA => ?_
 refine wpList_nil ?_
 refine hK1 _ _ ?_
 clear hK1
 refine wp_seq_k fun K2 hK2 => ?_
 refine wp_seq_k fun K3 hK3 => ?_
 refine wp_region_lit ?_
 refine mv hA fun a hA => ?_
 refine sq hA (q_len Tryd.underlying104 rfl (Own.shp hO_s)) rfl fun a hA => ?_
 refine mv hA fun a hA => ?_
 refine wpList_nil ?_
 refine hK3 _ _ ?_
 clear hK3
 replace hA := hA.s5 10 9 8 4 0
 refine wp_block ?_
 refine wp_loop_ghost (fun gm a w => ∃ j : Nat, ∃ N_t : Hl, At 31 [(10, I j), (9, I 5), (8, v_s), (4, (I 0)), (0, (.pointer (some ⟨b_v, 0, none⟩)))] a ∧ HS (doms [N, [(b_v, Obj.cells (vC b_t g x rr false).toArray 68 (0, 0))], N_s, [(b_p, Obj.cells [(.pointer (some ⟨b_v, 0, none⟩))].toArray 27 (0, 0))], [(b_sl, Obj.cells [I ((slotG (g + 1)) : Nat)].toArray 3 (0, 0))], [(b_ge, Obj.cells [I ((g + 1 : Nat) : Int)].toArray 3 (0, 0))], [(b_tx, Obj.cells [u].toArray 32 (0, 0))], [(b_p3, Obj.cells [(.pointer (some ⟨b_v, 0, none⟩))].toArray 27 (0, 0))], [(b_q3, Obj.cells [I ((slotG (g + 1)) : Nat)].toArray 3 (0, 0))], [(b_p5, Obj.cells [(.pointer (some ⟨b_v, 0, none⟩))].toArray 27 (0, 0))], [(b_q5, Obj.cells [I ((0 : Nat) : Int)].toArray 3 (0, 0))]]) w0 w ([N_t, [(b_v, Obj.cells (vC b_t g x rr false).toArray 68 (0, 0))], N_s, [(b_p, Obj.cells [(.pointer (some ⟨b_v, 0, none⟩))].toArray 27 (0, 0))], [(b_sl, Obj.cells [I ((slotG (g + 1)) : Nat)].toArray 3 (0, 0))], [(b_ge, Obj.cells [I ((g + 1 : Nat) : Int)].toArray 3 (0, 0))], [(b_tx, Obj.cells [u].toArray 32 (0, 0))], [(b_p3, Obj.cells [(.pointer (some ⟨b_v, 0, none⟩))].toArray 27 (0, 0))], [(b_q3, Obj.cells [I ((slotG (g + 1)) : Nat)].toArray 3 (0, 0))], [(b_p5, Obj.cells [(.pointer (some ⟨b_v, 0, none⟩))].toArray 27 (0, 0))], [(b_q5, Obj.cells [I ((0 : Nat) : Int)].toArray 3 (0, 0))]]) ∧ (j ≤ 5) ∧ (TM 5 76 66 b_t (stgT (stS (g + 1) l) T j) N_t) ∧ (∀ m < j, ((stS (g + 1) l) m (stgT (stS (g + 1) l) T m)).1 = 0) ∧ gm = 5 - j) (5 - (0)) ⟨0, N, hA.sub ⟨rfl, rfl, rfl, rfl, rfl, trivial⟩, hH, by omega, by exact hT, by exact fun m hm => absurd hm (Nat.not_lt_zero m), rfl⟩ ?_
 clear hA hH
 rintro gm a w ⟨j, N_t, hA, hH, hj, hT', hok, rfl⟩
 refine wp_seq_k fun K4 hK4 => ?_
 refine wp_region_lit ?_
 refine sq hA (q_lssI rfl rfl) rfl fun a hA => ?_
 rcases (show j = 0 ∨ j = 1 ∨ j = 2 ∨ j = 3 ∨ j = 4 ∨ j = 5 by omega) with rfl | rfl | rfl | rfl | rfl | rfl
 ·skip
  replace hA := hA.decT (by decide)
  refine wpList_nil ?_
  refine hK4 _ _ ?_
  clear hK4
  refine wp_seq_k fun K5 hK5 => ?_
  refine cond_t hA rfl ?_
  refine wp_skip ?_
  refine hK5 _ _ ?_
  clear hK5
  refine wp_seq_k fun K6 hK6 => ?_
  refine wp_block ?_
  refine wp_seq_k fun K7 hK7 => ?_
  refine wp_region_lit ?_
  refine sq hA (q_idx1 (0) Tryd.underlying104 ti84 rfl rfl (by first | omega | rfl) (Own.shp hO_s) (by first | omega | (simp; done) | (simp; omega) | (rw [List.length_map]; assumption) | assumption | rfl | (simp [*]; done) | (simp [*]; omega))) rfl fun a hA => ?_
  refine sq hA (q_loadR Tryd.underlying84 rfl rfl (Own.rd0 hO_s hH 2 rfl) (by first | omega | (simp; done) | (simp; omega) | (rw [List.length_map]; assumption) | assumption | rfl | (simp [*]; done) | (simp [*]; omega)) rfl) rfl fun a hA => ?_
  refine asg hA fun a hA => ?_
  refine wpList_nil ?_
  refine hK7 _ _ ?_
  clear hK7
  refine wp_seq_k fun K8 hK8 => ?_
  refine wp_region_lit ?_
  refine mv hA fun a hA => ?_
  replace hH := hH.pick [0, 1, 3, 4, 2, 5, 6, 7, 8, 9, 10] (Hs' := [_, _, _, _, _, _, _, _, _, _, _]) rfl
  refine sl hA (lo_callv (first := _) (cap := _) fn48 rfl rfl (save1_any b_v b_t g x rr false (stgT (stS (g + 1) l) T 0) N_t hT' hB0.fz b_p b_sl (slotG (g + 1)) hi4 (Nat.le_trans (hB0.op _) (by omega)) (HS.handed (Ns1 := [_, _, _, _]) hH))) rfl ?_
  rintro _ w ⟨N_t, rfl, hT', hC⟩ a hA
  replace hH := HS.call (Ns1 := [_, _, _, _]) hH hC
  clear hC
  refine asg hA fun a hA => ?_
  refine wpList_nil ?_
  refine hK8 _ _ ?_
  clear hK8
  refine wp_seq_k fun K9 hK9 => ?_
  refine wp_region_lit ?_
  refine mv hA fun a hA => ?_
  refine sq hA (q_neqI (n := 0) rfl rfl) rfl fun a hA => ?_
  refine wpList_nil ?_
  refine hK9 _ _ ?_
  clear hK9
  refine cond_d hA rfl (fun hc17 => ?_) (fun hc17 => ?_)
  ·skip
   have hE : ((stS (g + 1) l) 0 (stgT (stS (g + 1) l) T 0)).1 ≠ 0 := by have q : (((stS (g + 1) l) 0 (stgT (stS (g + 1) l) T 0)).1 : Int) ≠ 0 := hc17; omega
   refine wp_seq_k fun K10 hK10 => ?_
   refine wp_region_lit ?_
   refine mv hA fun a hA => ?_
   refine mv hA fun a hA => ?_
   refine sq hA (q_nilCheck rfl) rfl fun a hA => ?_
   refine sq hA (q_fld 4 Tryd.underlying68 rfl rfl ti4 rfl) rfl fun a hA => ?_
   refine sq hA (q_loadB hH 1 rfl (List.mem_singleton.2 rfl) Tryd.underlying4 rfl rfl rfl) rfl fun a hA => ?_
   refine mv hA fun a hA => ?_
   refine gq hA rfl rfl (q_move rfl) rfl fun a hA => ?_
   refine gq hA rfl rfl (q_eqlI (n := 100) rfl rfl) rfl fun a hA => ?_
   refine sq hA (q_pick_f rfl rfl) rfl fun a hA => ?_
   refine sq hA (q_nilCheck rfl) rfl fun a hA => ?_
   refine sq hA (q_fld 4 Tryd.underlying68 rfl rfl ti4 rfl) rfl fun a hA => ?_
   replace hH := hH.pick [1, 0, 2, 3, 4, 5, 6, 7, 8, 9, 10] (Hs' := [_, _, _, _, _, _, _, _, _, _, _]) rfl
   refine s0 hA (lo_store1 hH ti4 rfl rfl ((show 4 < 5 by decide)) rfl) ?_
   clear hH; rintro _ w hH
   rw [vC_down, dec100] at hH
   refine wpList_nil ?_
   refine hK10 _ _ ?_
   clear hK10
   refine wp_seq_k fun K11 hK11 => ?_
   refine wp_region_lit ?_
   refine mv hA fun a hA => ?_
   refine asg hA fun a hA => ?_
   refine wpList_nil ?_
   refine hK11 _ _ ?_
   clear hK11
   refine wp_ret ?_
   refine block_ret ?_
   refine then_ret ?_
   refine then_ret ?_
   refine block_ret ?_
   refine then_ret ?_
   refine post_ret hA (res_1 rfl hA rfl) ?_
   replace hH := hH.pick [1, 0, 4, 2, 3, 5, 6, 7, 8, 9, 10] (Hs' := [_, _, _, _, _, _, _, _, _, _, _]) rfl
   rw [saveS_0 (T := T) hE]; exact ⟨_, rfl, N_t, rfl, hT', hH⟩
  ·skip
   have hE : ((stS (g + 1) l) 0 (stgT (stS (g + 1) l) T 0)).1 = 0 := by have q : (((stS (g + 1) l) 0 (stgT (stS (g + 1) l) T 0)).1 : Int) = 0 := Classical.not_not.1 hc17; omega
   refine wp_skip ?_
   refine block_normal ?_
   refine hK6 _ _ ?_
   clear hK6
   refine wp_region_lit ?_
   refine sq hA (q_addI (n := 1) rfl rfl (by omega)) rfl fun a hA => ?_
   refine mv hA fun a hA => ?_
   refine wpList_nil ?_
   replace hH := hH.pick [0, 1, 4, 2, 3, 5, 6, 7, 8, 9, 10] (Hs' := [_, _, _, _, _, _, _, _, _, _, _]) rfl
   exact ⟨_, by omega, 1, N_t, hA.sub ⟨rfl, rfl, rfl, rfl, rfl, trivial⟩, hH, by omega, by exact hT', by (intro m hm; rcases Nat.lt_succ_iff_lt_or_eq.1 hm with h | h; exact hok m h; rw [h]; exact hE), rfl⟩
 ·skip
  replace hA := hA.decT (by decide)
  refine wpList_nil ?_
  refine hK4 _ _ ?_
  clear hK4
  refine wp_seq_k fun K12 hK12 => ?_
  refine cond_t hA rfl ?_
  refine wp_skip ?_
  refine hK12 _ _ ?_
  clear hK12
  refine wp_seq_k fun K13 hK13 => ?_
  refine wp_block ?_
  refine wp_seq_k fun K14 hK14 => ?_
  refine wp_region_lit ?_
  refine sq hA (q_idx1 (1) Tryd.underlying104 ti84 rfl rfl (by first | omega | rfl) (Own.shp hO_s) (by first | omega | (simp; done) | (simp; omega) | (rw [List.length_map]; assumption) | assumption | rfl | (simp [*]; done) | (simp [*]; omega))) rfl fun a hA => ?_
  refine sq hA (q_loadR Tryd.underlying84 rfl rfl (Own.rd0 hO_s hH 2 rfl) (by first | omega | (simp; done) | (simp; omega) | (rw [List.length_map]; assumption) | assumption | rfl | (simp [*]; done) | (simp [*]; omega)) rfl) rfl fun a hA => ?_
  refine asg hA fun a hA => ?_
  refine wpList_nil ?_
  refine hK14 _ _ ?_
  clear hK14
  refine wp_seq_k fun K15 hK15 => ?_
  refine wp_region_lit ?_
  refine mv hA fun a hA => ?_
  replace hH := hH.pick [0, 1, 3, 4, 5, 6, 2, 7, 8, 9, 10] (Hs' := [_, _, _, _, _, _, _, _, _, _, _]) rfl
  refine sl hA (lo_callv (first := _) (cap := _) fn50 rfl rfl (save2_any b_v b_t g x rr false (stgT (stS (g + 1) l) T 1) N_t hT' hB1.fz b_p b_sl b_ge b_tx (slotG (g + 1)) (g + 1) u l (hg.mono hH hgM) (Gl.ngs (Ns1 := [_, _, _, _, _, _]) hg hgM hH) hi4 hg40 (HS.rdM (Ns1 := [_, _, _, _, _, _]) hH hu) hl (Nat.le_trans (hB1.op _) (by omega)) (HS.handed (Ns1 := [_, _, _, _, _, _]) hH))) rfl ?_
  rintro _ w ⟨N_t, rfl, hT', hC⟩ a hA
  replace hH := HS.call (Ns1 := [_, _, _, _, _, _]) hH hC
  clear hC
  refine asg hA fun a hA => ?_
  refine wpList_nil ?_
  refine hK15 _ _ ?_
  clear hK15
  refine wp_seq_k fun K16 hK16 => ?_
  refine wp_region_lit ?_
  refine mv hA fun a hA => ?_
  refine sq hA (q_neqI (n := 0) rfl rfl) rfl fun a hA => ?_
  refine wpList_nil ?_
  refine hK16 _ _ ?_
  clear hK16
  refine cond_d hA rfl (fun hc17 => ?_) (fun hc17 => ?_)
  ·skip
   have hE : ((stS (g + 1) l) 1 (stgT (stS (g + 1) l) T 1)).1 ≠ 0 := by have q : (((stS (g + 1) l) 1 (stgT (stS (g + 1) l) T 1)).1 : Int) ≠ 0 := hc17; omega
   refine wp_seq_k fun K17 hK17 => ?_
   refine wp_region_lit ?_
   refine mv hA fun a hA => ?_
   refine mv hA fun a hA => ?_
   refine sq hA (q_nilCheck rfl) rfl fun a hA => ?_
   refine sq hA (q_fld 4 Tryd.underlying68 rfl rfl ti4 rfl) rfl fun a hA => ?_
   refine sq hA (q_loadB hH 1 rfl (List.mem_singleton.2 rfl) Tryd.underlying4 rfl rfl rfl) rfl fun a hA => ?_
   refine mv hA fun a hA => ?_
   refine gq hA rfl rfl (q_move rfl) rfl fun a hA => ?_
   refine gq hA rfl rfl (q_eqlI (n := 100) rfl rfl) rfl fun a hA => ?_
   refine sq hA (q_pick_f rfl rfl) rfl fun a hA => ?_
   refine sq hA (q_nilCheck rfl) rfl fun a hA => ?_
   refine sq hA (q_fld 4 Tryd.underlying68 rfl rfl ti4 rfl) rfl fun a hA => ?_
   replace hH := hH.pick [1, 0, 2, 3, 4, 5, 6, 7, 8, 9, 10] (Hs' := [_, _, _, _, _, _, _, _, _, _, _]) rfl
   refine s0 hA (lo_store1 hH ti4 rfl rfl ((show 4 < 5 by decide)) rfl) ?_
   clear hH; rintro _ w hH
   rw [vC_down, dec100] at hH
   refine wpList_nil ?_
   refine hK17 _ _ ?_
   clear hK17
   refine wp_seq_k fun K18 hK18 => ?_
   refine wp_region_lit ?_
   refine mv hA fun a hA => ?_
   refine asg hA fun a hA => ?_
   refine wpList_nil ?_
   refine hK18 _ _ ?_
   clear hK18
   refine wp_ret ?_
   refine block_ret ?_
   refine then_ret ?_
   refine then_ret ?_
   refine block_ret ?_
   refine then_ret ?_
   refine post_ret hA (res_1 rfl hA rfl) ?_
   replace hH := hH.pick [1, 0, 6, 2, 3, 4, 5, 7, 8, 9, 10] (Hs' := [_, _, _, _, _, _, _, _, _, _, _]) rfl
   rw [saveS_1 (T := T) (fun m hm => hok m (by omega)) hE]; exact ⟨_, rfl, N_t, rfl, hT', hH⟩
  ·skip
   have hE : ((stS (g + 1) l) 1 (stgT (stS (g + 1) l) T 1)).1 = 0 := by have q : (((stS (g + 1) l) 1 (stgT (stS (g + 1) l) T 1)).1 : Int) = 0 := Classical.not_not.1 hc17; omega
   refine wp_skip ?_
   refine block_normal ?_
   refine hK13 _ _ ?_
   clear hK13
   refine wp_region_lit ?_
   refine sq hA (q_addI (n := 1) rfl rfl (by omega)) rfl fun a hA => ?_
   refine mv hA fun a hA => ?_
   refine wpList_nil ?_
   replace hH := hH.pick [0, 1, 6, 2, 3, 4, 5, 7, 8, 9, 10] (Hs' := [_, _, _, _, _, _, _, _, _, _, _]) rfl
   exact ⟨_, by omega, 2, N_t, hA.sub ⟨rfl, rfl, rfl, rfl, rfl, trivial⟩, hH, by omega, by exact hT', by (intro m hm; rcases Nat.lt_succ_iff_lt_or_eq.1 hm with h | h; exact hok m h; rw [h]; exact hE), rfl⟩
 ·skip
  replace hA := hA.decT (by decide)
  refine wpList_nil ?_
  refine hK4 _ _ ?_
  clear hK4
  refine wp_seq_k fun K19 hK19 => ?_
  refine cond_t hA rfl ?_
  refine wp_skip ?_
  refine hK19 _ _ ?_
  clear hK19
  refine wp_seq_k fun K20 hK20 => ?_
  refine wp_block ?_
  refine wp_seq_k fun K21 hK21 => ?_
  refine wp_region_lit ?_
  refine sq hA (q_idx1 (2) Tryd.underlying104 ti84 rfl rfl (by first | omega | rfl) (Own.shp hO_s) (by first | omega | (simp; done) | (simp; omega) | (rw [List.length_map]; assumption) | assumption | rfl | (simp [*]; done) | (simp [*]; omega))) rfl fun a hA => ?_
  refine sq hA (q_loadR Tryd.underlying84 rfl rfl (Own.rd0 hO_s hH 2 rfl) (by first | omega | (simp; done) | (simp; omega) | (rw [List.length_map]; assumption) | assumption | rfl | (simp [*]; done) | (simp [*]; omega)) rfl) rfl fun a hA => ?_
  refine asg hA fun a hA => ?_
  refine wpList_nil ?_
  refine hK21 _ _ ?_
  clear hK21
  refine wp_seq_k fun K22 hK22 => ?_
  refine wp_region_lit ?_
  refine mv hA fun a hA => ?_
  replace hH := hH.pick [0, 1, 7, 8, 2, 3, 4, 5, 6, 9, 10] (Hs' := [_, _, _, _, _, _, _, _, _, _, _]) rfl
  refine sl hA (lo_callv (first := _) (cap := _) fn69 rfl rfl (syncc_any b_v b_t g x rr false (stgT (stS (g + 1) l) T 2) N_t hT' hB2.fz b_p3 b_q3 (slotG (g + 1)) hi4 (Nat.le_trans (hB2.op _) (by omega)) (hB2.now _) (HS.handed (Ns1 := [_, _, _, _]) hH))) rfl ?_
  rintro _ w ⟨N_t, rfl, hT', hC⟩ a hA
  replace hH := HS.call (Ns1 := [_, _, _, _]) hH hC
  clear hC
  refine asg hA fun a hA => ?_
  refine wpList_nil ?_
  refine hK22 _ _ ?_
  clear hK22
  refine wp_seq_k fun K23 hK23 => ?_
  refine wp_region_lit ?_
  refine mv hA fun a hA => ?_
  refine sq hA (q_neqI (n := 0) rfl rfl) rfl fun a hA => ?_
  refine wpList_nil ?_
  refine hK23 _ _ ?_
  clear hK23
  refine cond_d hA rfl (fun hc17 => ?_) (fun hc17 => ?_)
  ·skip
   have hE : ((stS (g + 1) l) 2 (stgT (stS (g + 1) l) T 2)).1 ≠ 0 := by have q : (((stS (g + 1) l) 2 (stgT (stS (g + 1) l) T 2)).1 : Int) ≠ 0 := hc17; omega
   refine wp_seq_k fun K24 hK24 => ?_
   refine wp_region_lit ?_
   refine mv hA fun a hA => ?_
   refine mv hA fun a hA => ?_
   refine sq hA (q_nilCheck rfl) rfl fun a hA => ?_
   refine sq hA (q_fld 4 Tryd.underlying68 rfl rfl ti4 rfl) rfl fun a hA => ?_
   refine sq hA (q_loadB hH 1 rfl (List.mem_singleton.2 rfl) Tryd.underlying4 rfl rfl rfl) rfl fun a hA => ?_
   refine mv hA fun a hA => ?_
   refine gq hA rfl rfl (q_move rfl) rfl fun a hA => ?_
   refine gq hA rfl rfl (q_eqlI (n := 100) rfl rfl) rfl fun a hA => ?_
   refine sq hA (q_pick_f rfl rfl) rfl fun a hA => ?_
   refine sq hA (q_nilCheck rfl) rfl fun a hA => ?_
   refine sq hA (q_fld 4 Tryd.underlying68 rfl rfl ti4 rfl) rfl fun a hA => ?_
   replace hH := hH.pick [1, 0, 2, 3, 4, 5, 6, 7, 8, 9, 10] (Hs' := [_, _, _, _, _, _, _, _, _, _, _]) rfl
   refine s0 hA (lo_store1 hH ti4 rfl rfl ((show 4 < 5 by decide)) rfl) ?_
   clear hH; rintro _ w hH
   rw [vC_down, dec100] at hH
   refine wpList_nil ?_
   refine hK24 _ _ ?_
   clear hK24
   refine wp_seq_k fun K25 hK25 => ?_
   refine wp_region_lit ?_
   refine mv hA fun a hA => ?_
   refine asg hA fun a hA => ?_
   refine wpList_nil ?_
   refine hK25 _ _ ?_
   clear hK25
   refine wp_ret ?_
   refine block_ret ?_
   refine then_ret ?_
   refine then_ret ?_
   refine block_ret ?_
   refine then_ret ?_
   refine post_ret hA (res_1 rfl hA rfl) ?_
   replace hH := hH.pick [1, 0, 4, 5, 6, 7, 8, 2, 3, 9, 10] (Hs' := [_, _, _, _, _, _, _, _, _, _, _]) rfl
   rw [saveS_2 (T := T) (fun m hm => hok m (by omega)) hE]; exact ⟨_, rfl, N_t, rfl, hT', hH⟩
  ·skip
   have hE : ((stS (g + 1) l) 2 (stgT (stS (g + 1) l) T 2)).1 = 0 := by have q : (((stS (g + 1) l) 2 (stgT (stS (g + 1) l) T 2)).1 : Int) = 0 := Classical.not_not.1 hc17; omega
   refine wp_skip ?_
   refine block_normal ?_
   refine hK20 _ _ ?_
   clear hK20
   refine wp_region_lit ?_
   refine sq hA (q_addI (n := 1) rfl rfl (by omega)) rfl fun a hA => ?_
   refine mv hA fun a hA => ?_
   refine wpList_nil ?_
   replace hH := hH.pick [0, 1, 4, 5, 6, 7, 8, 2, 3, 9, 10] (Hs' := [_, _, _, _, _, _, _, _, _, _, _]) rfl
   exact ⟨_, by omega, 3, N_t, hA.sub ⟨rfl, rfl, rfl, rfl, rfl, trivial⟩, hH, by omega, by exact hT', by (intro m hm; rcases Nat.lt_succ_iff_lt_or_eq.1 hm with h | h; exact hok m h; rw [h]; exact hE), rfl⟩
 ·skip
  replace hA := hA.decT (by decide)
  refine wpList_nil ?_
  refine hK4 _ _ ?_
  clear hK4
  refine wp_seq_k fun K26 hK26 => ?_
  refine cond_t hA rfl ?_
  refine wp_skip ?_
  refine hK26 _ _ ?_
  clear hK26
  refine wp_seq_k fun K27 hK27 => ?_
  refine wp_block ?_
  refine wp_seq_k fun K28 hK28 => ?_
  refine wp_region_lit ?_
  refine sq hA (q_idx1 (3) Tryd.underlying104 ti84 rfl rfl (by first | omega | rfl) (Own.shp hO_s) (by first | omega | (simp; done) | (simp; omega) | (rw [List.length_map]; assumption) | assumption | rfl | (simp [*]; done) | (simp [*]; omega))) rfl fun a hA => ?_
  refine sq hA (q_loadR Tryd.underlying84 rfl rfl (Own.rd0 hO_s hH 2 rfl) (by first | omega | (simp; done) | (simp; omega) | (rw [List.length_map]; assumption) | assumption | rfl | (simp [*]; done) | (simp [*]; omega)) rfl) rfl fun a hA => ?_
  refine asg hA fun a hA => ?_
  refine wpList_nil ?_
  refine hK28 _ _ ?_
  clear hK28
  refine wp_seq_k fun K29 hK29 => ?_
  refine wp_region_lit ?_
  refine mv hA fun a hA => ?_
  replace hH := hH.pick [0, 1, 3, 2, 4, 5, 6, 7, 8, 9, 10] (Hs' := [_, _, _, _, _, _, _, _, _, _, _]) rfl
  refine sl hA (lo_callv (first := _) (cap := _) fn51 rfl rfl (save3_any b_v b_t g x rr false (stgT (stS (g + 1) l) T 3) N_t hT' hB3.fz b_p (Nat.le_trans (hB3.op _) (by omega)) (HS.handed (Ns1 := [_, _, _]) hH))) rfl ?_
  rintro _ w ⟨N_t, rfl, hT', hC⟩ a hA
  replace hH := HS.call (Ns1 := [_, _, _]) hH hC
  clear hC
  refine asg hA fun a hA => ?_
  refine wpList_nil ?_
  refine hK29 _ _ ?_
  clear hK29
  refine wp_seq_k fun K30 hK30 => ?_
  refine wp_region_lit ?_
  refine mv hA fun a hA => ?_
  refine sq hA (q_neqI (n := 0) rfl rfl) rfl fun a hA => ?_
  refine wpList_nil ?_
  refine hK30 _ _ ?_
  clear hK30
  refine cond_d hA rfl (fun hc17 => ?_) (fun hc17 => ?_)
  ·skip
   have hE : ((stS (g + 1) l) 3 (stgT (stS (g + 1) l) T 3)).1 ≠ 0 := by have q : (((stS (g + 1) l) 3 (stgT (stS (g + 1) l) T 3)).1 : Int) ≠ 0 := hc17; omega
   refine wp_seq_k fun K31 hK31 => ?_
   refine wp_region_lit ?_
   refine mv hA fun a hA => ?_
   refine mv hA fun a hA => ?_
   refine sq hA (q_nilCheck rfl) rfl fun a hA => ?_
   refine sq hA (q_fld 4 Tryd.underlying68 rfl rfl ti4 rfl) rfl fun a hA => ?_
   refine sq hA (q_loadB hH 1 rfl (List.mem_singleton.2 rfl) Tryd.underlying4 rfl rfl rfl) rfl fun a hA => ?_
   refine mv hA fun a hA => ?_
   refine gq hA rfl rfl (q_move rfl) rfl fun a hA => ?_
   refine gq hA rfl rfl (q_eqlI (n := 100) rfl rfl) rfl fun a hA => ?_
   refine sq hA (q_pick_f rfl rfl) rfl fun a hA => ?_
   refine sq hA (q_nilCheck rfl) rfl fun a hA => ?_
   refine sq hA (q_fld 4 Tryd.underlying68 rfl rfl ti4 rfl) rfl fun a hA => ?_
   replace hH := hH.pick [1, 0, 2, 3, 4, 5, 6, 7, 8, 9, 10] (Hs' := [_, _, _, _, _, _, _, _, _, _, _]) rfl
   refine s0 hA (lo_store1 hH ti4 rfl rfl ((show 4 < 5 by decide)) rfl) ?_
   clear hH; rintro _ w hH
   rw [vC_down, dec100] at hH
   refine wpList_nil ?_
   refine hK31 _ _ ?_
   clear hK31
   refine wp_seq_k fun K32 hK32 => ?_
   refine wp_region_lit ?_
   refine mv hA fun a hA => ?_
   refine asg hA fun a hA => ?_
   refine wpList_nil ?_
   refine hK32 _ _ ?_
   clear hK32
   refine wp_ret ?_
   refine block_ret ?_
   refine then_ret ?_
   refine then_ret ?_
   refine block_ret ?_
   refine then_ret ?_
   refine post_ret hA (res_1 rfl hA rfl) ?_
   replace hH := hH.pick [1, 0, 3, 2, 4, 5, 6, 7, 8, 9, 10] (Hs' := [_, _, _, _, _, _, _, _, _, _, _]) rfl
   rw [saveS_3 (T := T) (fun m hm => hok m (by omega)) hE]; exact ⟨_, rfl, N_t, rfl, hT', hH⟩
  ·skip
   have hE : ((stS (g + 1) l) 3 (stgT (stS (g + 1) l) T 3)).1 = 0 := by have q : (((stS (g + 1) l) 3 (stgT (stS (g + 1) l) T 3)).1 : Int) = 0 := Classical.not_not.1 hc17; omega
   refine wp_skip ?_
   refine block_normal ?_
   refine hK27 _ _ ?_
   clear hK27
   refine wp_region_lit ?_
   refine sq hA (q_addI (n := 1) rfl rfl (by omega)) rfl fun a hA => ?_
   refine mv hA fun a hA => ?_
   refine wpList_nil ?_
   replace hH := hH.pick [0, 1, 3, 2, 4, 5, 6, 7, 8, 9, 10] (Hs' := [_, _, _, _, _, _, _, _, _, _, _]) rfl
   exact ⟨_, by omega, 4, N_t, hA.sub ⟨rfl, rfl, rfl, rfl, rfl, trivial⟩, hH, by omega, by exact hT', by (intro m hm; rcases Nat.lt_succ_iff_lt_or_eq.1 hm with h | h; exact hok m h; rw [h]; exact hE), rfl⟩
 ·skip
  replace hA := hA.decT (by decide)
  refine wpList_nil ?_
  refine hK4 _ _ ?_
  clear hK4
  refine wp_seq_k fun K33 hK33 => ?_
  refine cond_t hA rfl ?_
  refine wp_skip ?_
  refine hK33 _ _ ?_
  clear hK33
  refine wp_seq_k fun K34 hK34 => ?_
  refine wp_block ?_
  refine wp_seq_k fun K35 hK35 => ?_
  refine wp_region_lit ?_
  refine sq hA (q_idx1 (4) Tryd.underlying104 ti84 rfl rfl (by first | omega | rfl) (Own.shp hO_s) (by first | omega | (simp; done) | (simp; omega) | (rw [List.length_map]; assumption) | assumption | rfl | (simp [*]; done) | (simp [*]; omega))) rfl fun a hA => ?_
  refine sq hA (q_loadR Tryd.underlying84 rfl rfl (Own.rd0 hO_s hH 2 rfl) (by first | omega | (simp; done) | (simp; omega) | (rw [List.length_map]; assumption) | assumption | rfl | (simp [*]; done) | (simp [*]; omega)) rfl) rfl fun a hA => ?_
  refine asg hA fun a hA => ?_
  refine wpList_nil ?_
  refine hK35 _ _ ?_
  clear hK35
  refine wp_seq_k fun K36 hK36 => ?_
  refine wp_region_lit ?_
  refine mv hA fun a hA => ?_
  replace hH := hH.pick [0, 1, 9, 10, 2, 3, 4, 5, 6, 7, 8] (Hs' := [_, _, _, _, _, _, _, _, _, _, _]) rfl
  refine sl hA (lo_callv (first := _) (cap := _) fn69 rfl rfl (syncc_any b_v b_t g x rr false (stgT (stS (g + 1) l) T 4) N_t hT' hB4.fz b_p5 b_q5 0 (by decide) (Nat.le_trans (hB4.op _) (by omega)) (hB4.now _) (HS.handed (Ns1 := [_, _, _, _]) hH))) rfl ?_
  rintro _ w ⟨N_t, rfl, hT', hC⟩ a hA
  replace hH := HS.call (Ns1 := [_, _, _, _]) hH hC
  clear hC
  refine asg hA fun a hA => ?_
  refine wpList_nil ?_
  refine hK36 _ _ ?_
  clear hK36
  refine wp_seq_k fun K37 hK37 => ?_
  refine wp_region_lit ?_
  refine mv hA fun a hA => ?_
  refine sq hA (q_neqI (n := 0) rfl rfl) rfl fun a hA => ?_
  refine wpList_nil ?_
  refine hK37 _ _ ?_
  clear hK37
  refine cond_d hA rfl (fun hc17 => ?_) (fun hc17 => ?_)
  ·skip
   have hE : ((stS (g + 1) l) 4 (stgT (stS (g + 1) l) T 4)).1 ≠ 0 := by have q : (((stS (g + 1) l) 4 (stgT (stS (g + 1) l) T 4)).1 : Int) ≠ 0 := hc17; omega
   refine wp_seq_k fun K38 hK38 => ?_
   refine wp_region_lit ?_
   refine mv hA fun a hA => ?_
   refine mv hA fun a hA => ?_
   refine sq hA (q_nilCheck rfl) rfl fun a hA => ?_
   refine sq hA (q_fld 4 Tryd.underlying68 rfl rfl ti4 rfl) rfl fun a hA => ?_
   refine sq hA (q_loadB hH 1 rfl (List.mem_singleton.2 rfl) Tryd.underlying4 rfl rfl rfl) rfl fun a hA => ?_
   refine mv hA fun a hA => ?_
   refine gq hA rfl rfl (q_move rfl) rfl fun a hA => ?_
   refine gq hA rfl rfl (q_eqlI (n := 100) rfl rfl) rfl fun a hA => ?_
   refine sq hA (q_pick_f rfl rfl) rfl fun a hA => ?_
   refine sq hA (q_nilCheck rfl) rfl fun a hA => ?_
   refine sq hA (q_fld 4 Tryd.underlying68 rfl rfl ti4 rfl) rfl fun a hA => ?_
   replace hH := hH.pick [1, 0, 2, 3, 4, 5, 6, 7, 8, 9, 10] (Hs' := [_, _, _, _, _, _, _, _, _, _, _]) rfl
   refine s0 hA (lo_store1 hH ti4 rfl rfl ((show 4 < 5 by decide)) rfl) ?_
   clear hH; rintro _ w hH
   rw [vC_down, dec100] at hH
   refine wpList_nil ?_
   refine hK38 _ _ ?_
   clear hK38
   refine wp_seq_k fun K39 hK39 => ?_
   refine wp_region_lit ?_
   refine mv hA fun a hA => ?_
   refine asg hA fun a hA => ?_
   refine wpList_nil ?_
   refine hK39 _ _ ?_
   clear hK39
   refine wp_ret ?_
   refine block_ret ?_
   refine then_ret ?_
   refine then_ret ?_
   refine block_ret ?_
   refine then_ret ?_
   refine post_ret hA (res_1 rfl hA rfl) ?_
   replace hH := hH.pick [1, 0, 4, 5, 6, 7, 8, 9, 10, 2, 3] (Hs' := [_, _, _, _, _, _, _, _, _, _, _]) rfl
   rw [saveS_4 (T := T) (fun m hm => hok m (by omega))]; exact ⟨_, rfl, N_t, rfl, hT', hH⟩
  ·skip
   have hE : ((stS (g + 1) l) 4 (stgT (stS (g + 1) l) T 4)).1 = 0 := by have q : (((stS (g + 1) l) 4 (stgT (stS (g + 1) l) T 4)).1 : Int) = 0 := Classical.not_not.1 hc17; omega
   refine wp_skip ?_
   refine block_normal ?_
   refine hK34 _ _ ?_
   clear hK34
   refine wp_region_lit ?_
   refine sq hA (q_addI (n := 1) rfl rfl (by omega)) rfl fun a hA => ?_
   refine mv hA fun a hA => ?_
   refine wpList_nil ?_
   replace hH := hH.pick [0, 1, 4, 5, 6, 7, 8, 9, 10, 2, 3] (Hs' := [_, _, _, _, _, _, _, _, _, _, _]) rfl
   exact ⟨_, by omega, 5, N_t, hA.sub ⟨rfl, rfl, rfl, rfl, rfl, trivial⟩, hH, by omega, by exact hT', by (intro m hm; rcases Nat.lt_succ_iff_lt_or_eq.1 hm with h | h; exact hok m h; rw [h]; exact hE), rfl⟩
 ·skip
  replace hA := hA.decF (by decide)
  refine wpList_nil ?_
  refine hK4 _ _ ?_
  clear hK4
  refine wp_seq_k fun K40 hK40 => ?_
  refine cond_f hA rfl ?_
  refine wp_exit ?_
  refine then_exit ?_
  refine then_exit ?_
  refine exit_here ?_
  refine hK2 _ _ ?_
  clear hK2
  replace hA := hA.s1 4
  refine wp_seq_k fun K41 hK41 => ?_
  refine wp_region_lit ?_
  refine asg hA fun a hA => ?_
  refine wpList_nil ?_
  refine hK41 _ _ ?_
  clear hK41
  refine wp_ret ?_
  refine post_ret hA (res_1 rfl hA rfl) ?_
  rw [saveS_4 (T := T) (fun m hm => hok m (by omega))]
  rw [show decide (((stS (g + 1) l) 4 (stgT (stS (g + 1) l) T 4)).1 = 100) = false by rw [hok 4 (by omega)]; rfl]
  exact ⟨_, rfl, N_t, by rw [hok 4 (by omega)]; rfl, hT', hH⟩

end Go.Proofs.YthhdilafnfcpbaaDoor
