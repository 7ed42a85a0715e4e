/- Layer 12 (vault): the law VaultLong. -/
import Derived.Test.YthhdilafnfcpbaaDoorJr
import Derived.Test.YthhdilafnfcpbaaDoorVz
namespace Go.Proofs.YthhdilafnfcpbaaDoor
open Go
set_option linter.unusedVariables false
set_option linter.unusedSimpArgs false
set_option maxRecDepth 100000

set_option maxHeartbeats 2000000 in
theorem vaultLong_any {w0 : World} {lv : Nat} (hg : Gl lv w0) (n1 m1 : Int) :
    Calls Tryd.prog 5 #[(I n1), (I m1)] w0 (Ret fun r w' => r = .bool true ∧ HS [] w0 w' []) := by
 have hH := HS.start w0
 refine start (n := 113) (E := [(0, _), (1, _)]) Tryd.func5 rfl rfl rfl (args_look rfl) ?_
 intro a hA
 refine wp_seq_k fun K1 hK1 => ?_
 refine wp_region_lit ?_
 refine asg hA fun a hA => ?_
 refine wpList_nil ?_
 refine hK1 _ _ ?_
 clear hK1
 refine wp_seq_k fun K2 hK2 => ?_
 refine wp_seq_k fun K3 hK3 => ?_
 refine wp_region_lit ?_
 refine mv hA fun a hA => ?_
 refine sq hA (q_lssI (n := 0) rfl rfl) rfl fun a hA => ?_
 refine hA.spl (fun hs14 hA => ?_) (fun hs14 hA => ?_)
 ·skip
  refine mv hA fun a hA => ?_
  refine gs hA rfl rfl rfl rfl fun a hA => ?_
  refine gs hA rfl rfl rfl rfl fun a hA => ?_
  refine sq hA (q_pick_t rfl rfl) rfl fun a hA => ?_
  refine mv hA fun a hA => ?_
  refine gs hA rfl rfl rfl rfl fun a hA => ?_
  refine gs hA rfl rfl rfl rfl fun a hA => ?_
  refine sq hA (q_pick_t rfl rfl) rfl fun a hA => ?_
  refine mv hA fun a hA => ?_
  refine gs hA rfl rfl rfl rfl fun a hA => ?_
  refine gs hA rfl rfl rfl rfl fun a hA => ?_
  refine sq hA (q_pick_t rfl rfl) rfl fun a hA => ?_
  refine wpList_nil ?_
  refine hK3 _ _ ?_
  clear hK3
  replace hA := hA.s4 26 4 0 1
  refine cond_t hA rfl ?_
  refine wp_seq_k fun K4 hK4 => ?_
  refine wp_region_lit ?_
  refine sl hA (lo_call fn11 rfl (awake12_any (hg.mono0 hH))) rfl ?_
  rintro _ w ⟨rfl, hC⟩ a hA
  replace hH := HS.call0 hH hC
  clear hC
  refine asg hA fun a hA => ?_
  refine wpList_nil ?_
  refine hK4 _ _ ?_
  clear hK4
  replace hA := hA.s3 4 0 1
  refine wp_ret ?_
  refine then_ret ?_
  refine post_ret hA (res_1 rfl hA rfl) ?_
  exact ⟨_, rfl, rfl, hH⟩
 ·skip
  refine mv hA fun a hA => ?_
  refine gq hA rfl rfl (q_move rfl) rfl fun a hA => ?_
  refine gq hA rfl rfl (q_gtrI (n := 262144) rfl rfl) rfl fun a hA => ?_
  refine hA.spl (fun hs17 hA => ?_) (fun hs17 hA => ?_)
  ·skip
   refine sq hA (q_pick_f rfl rfl) rfl fun a hA => ?_
   refine mv hA fun a hA => ?_
   refine gs hA rfl rfl rfl rfl fun a hA => ?_
   refine gs hA rfl rfl rfl rfl fun a hA => ?_
   refine sq hA (q_pick_t rfl rfl) rfl fun a hA => ?_
   refine mv hA fun a hA => ?_
   refine gs hA rfl rfl rfl rfl fun a hA => ?_
   refine gs hA rfl rfl rfl rfl fun a hA => ?_
   refine sq hA (q_pick_t rfl rfl) rfl fun a hA => ?_
   refine wpList_nil ?_
   refine hK3 _ _ ?_
   clear hK3
   replace hA := hA.s4 26 4 0 1
   refine cond_t hA rfl ?_
   refine wp_seq_k fun K5 hK5 => ?_
   refine wp_region_lit ?_
   refine sl hA (lo_call fn11 rfl (awake12_any (hg.mono0 hH))) rfl ?_
   rintro _ w ⟨rfl, hC⟩ a hA
   replace hH := HS.call0 hH hC
   clear hC
   refine asg hA fun a hA => ?_
   refine wpList_nil ?_
   refine hK5 _ _ ?_
   clear hK5
   replace hA := hA.s3 4 0 1
   refine wp_ret ?_
   refine then_ret ?_
   refine post_ret hA (res_1 rfl hA rfl) ?_
   exact ⟨_, rfl, rfl, hH⟩
  ·skip
   refine sq hA (q_pick_f rfl rfl) rfl fun a hA => ?_
   refine mv hA fun a hA => ?_
   refine gq hA rfl rfl (q_move rfl) rfl fun a hA => ?_
   refine gq hA rfl rfl (q_lssI (n := 0) rfl rfl) rfl fun a hA => ?_
   refine hA.spl (fun hs21 hA => ?_) (fun hs21 hA => ?_)
   ·skip
    refine sq hA (q_pick_f rfl rfl) rfl fun a hA => ?_
    refine mv hA fun a hA => ?_
    refine gs hA rfl rfl rfl rfl fun a hA => ?_
    refine gs hA rfl rfl rfl rfl fun a hA => ?_
    refine sq hA (q_pick_t rfl rfl) rfl fun a hA => ?_
    refine wpList_nil ?_
    refine hK3 _ _ ?_
    clear hK3
    replace hA := hA.s4 26 4 0 1
    refine cond_t hA rfl ?_
    refine wp_seq_k fun K6 hK6 => ?_
    refine wp_region_lit ?_
    refine sl hA (lo_call fn11 rfl (awake12_any (hg.mono0 hH))) rfl ?_
    rintro _ w ⟨rfl, hC⟩ a hA
    replace hH := HS.call0 hH hC
    clear hC
    refine asg hA fun a hA => ?_
    refine wpList_nil ?_
    refine hK6 _ _ ?_
    clear hK6
    replace hA := hA.s3 4 0 1
    refine wp_ret ?_
    refine then_ret ?_
    refine post_ret hA (res_1 rfl hA rfl) ?_
    exact ⟨_, rfl, rfl, hH⟩
   ·skip
    refine sq hA (q_pick_f rfl rfl) rfl fun a hA => ?_
    refine mv hA fun a hA => ?_
    refine gq hA rfl rfl (q_move rfl) rfl fun a hA => ?_
    refine gq hA rfl rfl (q_gtrI (n := 8) rfl rfl) rfl fun a hA => ?_
    refine hA.spl (fun hs25 hA => ?_) (fun hs25 hA => ?_)
    ·skip
     refine sq hA (q_pick_f rfl rfl) rfl fun a hA => ?_
     refine wpList_nil ?_
     refine hK3 _ _ ?_
     clear hK3
     replace hA := hA.s4 26 4 0 1
     refine cond_t hA rfl ?_
     refine wp_seq_k fun K7 hK7 => ?_
     refine wp_region_lit ?_
     refine sl hA (lo_call fn11 rfl (awake12_any (hg.mono0 hH))) rfl ?_
     rintro _ w ⟨rfl, hC⟩ a hA
     replace hH := HS.call0 hH hC
     clear hC
     refine asg hA fun a hA => ?_
     refine wpList_nil ?_
     refine hK7 _ _ ?_
     clear hK7
     replace hA := hA.s3 4 0 1
     refine wp_ret ?_
     refine then_ret ?_
     refine post_ret hA (res_1 rfl hA rfl) ?_
     exact ⟨_, rfl, rfl, hH⟩
    ·skip
     refine sq hA (q_pick_f rfl rfl) rfl fun a hA => ?_
     refine wpList_nil ?_
     refine hK3 _ _ ?_
     clear hK3
     replace hA := hA.s4 26 4 0 1
     refine cond_f hA rfl ?_
     refine wp_skip ?_
     refine hK2 _ _ ?_
     clear hK2
     replace hA := hA.s3 4 0 1
     refine wp_seq_k fun K8 hK8 => ?_
     refine wp_region_lit ?_
     refine sl hA (lo_call fn12 rfl newt_tm) rfl ?_
     rintro _ w ⟨b_t, N_t, rfl, hT, hC⟩ a hA
     replace hH := HS.call0 hH hC
     clear hC
     obtain ⟨n, rfl⟩ : ∃ n : Nat, n1 = (n : Int) := ⟨n1.toNat, by omega⟩
     obtain ⟨m, rfl⟩ : ∃ m : Nat, m1 = (m : Int) := ⟨m1.toNat, by omega⟩
     refine asg hA fun a hA => ?_
     refine wpList_nil ?_
     refine hK8 _ _ ?_
     clear hK8
     replace hA := hA.s4 5 4 0 1
     refine wp_seq_k fun K9 hK9 => ?_
     refine wp_region_lit ?_
     refine mv hA fun a hA => ?_
     refine sl hA (lo_call fn13 rfl (open_i (hg.mono0 hH) b_t newT N_t hT newV Inv_new (by decide) (fun i => Nat.zero_le _) (hg.ng NG.nil hH) (HS.handed (Ns1 := [_]) hH))) rfl ?_
     rintro _ w ⟨b_v, N_t, N_v, rfl, hT, hV_v, hC⟩ a hA
     replace hH := HS.call (Ns1 := [_]) hH hC
     clear hC
     refine mv hA fun a hA => ?_
     refine sq hA (q_extract rfl rfl) rfl fun a hA => ?_
     refine sq hA (q_extract rfl rfl) rfl fun a hA => ?_
     refine asg hA fun a hA => ?_
     refine asg hA fun a hA => ?_
     refine wpList_nil ?_
     refine hK9 _ _ ?_
     clear hK9
     replace hA := hA.s5 7 6 4 0 1
     refine wp_seq_k fun K10 hK10 => ?_
     refine wp_region_lit ?_
     refine mv hA fun a hA => ?_
     refine sl hA (lo_make (n := n) hH Tryd.underlying32 ti5 rfl rfl rfl (rfl) (by omega) (by omega)) rfl ?_
     clear hH; rintro v_t35 w ⟨N_t35, hO_t35, hH⟩ a hA
     replace hO_t35 : Ow B8 5 v_t35 (List.replicate n 0#8) N_t35 := by simpa [Ow, cells_B8, flat_replicate] using hO_t35
     obtain ⟨b, hb⟩ : ∃ b : Bs, b = List.replicate n 0#8 := ⟨_, rfl⟩
     rw [← hb] at hO_t35
     have hbl : b.length = n := by rw [hb, List.length_replicate]
     have hFl : frL b ≤ n + 30 := by have := frL_le (b := b) (by omega); omega
     refine asg hA fun a hA => ?_
     refine wpList_nil ?_
     refine hK10 _ _ ?_
     clear hK10
     replace hA := hA.s6 8 7 6 4 0 1
     refine wp_seq_k fun K11 hK11 => ?_
     refine wp_region_lit ?_
     refine asg hA fun a hA => ?_
     refine wpList_nil ?_
     refine hK11 _ _ ?_
     clear hK11
     refine wp_seq_k fun K12 hK12 => ?_
     refine wp_seq_k fun K13 hK13 => ?_
     refine wp_region_lit ?_
     refine asg hA fun a hA => ?_
     refine wpList_nil ?_
     refine hK13 _ _ ?_
     clear hK13
     refine wp_block ?_
     replace hH := hH.pick [1, 2, 0] (Hs' := [_, _, _]) rfl
     refine wp_loop_ghost (fun gm a w => ∃ i : Nat, ∃ had : Nat, ∃ T : Tp, ∃ V : Vs, ∃ N_t : Hl, ∃ N_v : Hl, At 113 [(10, I i), (9, I had), (8, v_t35), (7, (I 0)), (6, (.pointer (some ⟨b_v, 0, none⟩))), (4, (.bool false)), (0, (I n)), (1, (I m))] a ∧ HS [] w0 w ([N_t, N_v, N_t35]) ∧ (i ≤ m) ∧ (Inv T V) ∧ (T.fuse < 0) ∧ (V.gen = 0) ∧ (had ≤ i) ∧ (V.recs.length = had) ∧ ((T.fs 0).now.length = had * frL b) ∧ (TM 5 76 66 b_t T N_t) ∧ (VM 5 32 68 b_v b_t V N_v) ∧ gm = m - i) (m - (0)) ⟨0, 0, newT, newV, N_t, N_v, hA.sub ⟨rfl, rfl, rfl, rfl, rfl, rfl, rfl, rfl, trivial⟩, hH, by omega, by exact Inv_new, by decide, by rfl, by omega, by rfl, by (show 0 = 0 * _; omega), by exact hT, by exact hV_v, rfl⟩ ?_
     clear hA hH
     rintro gm a w ⟨i, had, T, V, N_t, N_v, hA, hH, hi, hI, hf, hg0, hh, hrl, hJ, hT, hV_v, rfl⟩
     refine wp_seq_k fun K14 hK14 => ?_
     refine wp_seq_k fun K15 hK15 => ?_
     refine wp_region_lit ?_
     refine mv hA fun a hA => ?_
     refine mv hA fun a hA => ?_
     refine sq hA (q_lssI rfl rfl) rfl fun a hA => ?_
     refine wpList_nil ?_
     refine hK15 _ _ ?_
     clear hK15
     refine cond_d hA rfl (fun hc38 => ?_) (fun hc38 => ?_)
     ·skip
      refine wp_skip ?_
      refine hK14 _ _ ?_
      clear hK14
      refine wp_seq_k fun K16 hK16 => ?_
      refine wp_block ?_
      refine wp_seq_k fun K17 hK17 => ?_
      refine wp_region_lit ?_
      refine mv hA fun a hA => ?_
      rcases (show 262080 < n ∨ (n ≤ 262080 ∧ 1048576 < (T.fs 0).now.length + frL b) ∨ (n ≤ 262080 ∧ (T.fs 0).now.length + frL b ≤ 1048576) by omega) with hbig | ⟨hn, hfull⟩ | ⟨hn, hfit⟩
      ·skip
       refine mv hA fun a hA => ?_
       refine sl hA (lo_call fn22 rfl (add_vm (hg.mono0 hH) b_v b_t V T N_t N_v hV_v hT (fun _ => (hI.rdy (by omega)).mono (by decide)) hI.vok (Gl.ngs (Ns1 := [_, _]) hg NG.nil hH) _ _ (Own.rdM hO_t35 (Ns1 := [_, _]) hH 0 rfl) (HS.handed (Ns1 := [_, _]) hH))) rfl ?_
       rintro _ w ⟨N_t, N_v, rfl, hT, hV_v, hC⟩ a hA
       replace hH := HS.call (Ns1 := [_, _]) hH hC
       clear hC
       have ea := addV_2 (T := T) (V := V) (b := b) hI.vd (by omega)
       replace hT : TM 5 76 66 b_t T N_t := by rw [ea] at hT; exact hT
       replace hV_v : VM 5 32 68 b_v b_t V N_v := by rw [ea] at hV_v; exact hV_v
       rw [ea] at hA
       refine asg hA fun a hA => ?_
       refine wpList_nil ?_
       refine hK17 _ _ ?_
       clear hK17
       refine wp_seq_k fun K18 hK18 => ?_
       refine wp_seq_k fun K19 hK19 => ?_
       refine wp_region_lit ?_
       refine mv hA fun a hA => ?_
       refine sq hA (q_gtrI (n := 262080) rfl rfl) rfl fun a hA => ?_
       refine wpList_nil ?_
       refine hK19 _ _ ?_
       clear hK19
       refine cond_d hA rfl (fun _ => ?_) (fun hnn => absurd ((by omega)) hnn)
       refine wp_seq_k fun K20 hK20 => ?_
       refine wp_seq_k fun K21 hK21 => ?_
       refine wp_region_lit ?_
       refine mv hA fun a hA => ?_
       refine sq hA (q_neqI (n := 42) rfl rfl) rfl fun a hA => ?_
       replace hA := hA.decF (by exact fun h => h rfl)
       refine wpList_nil ?_
       refine hK21 _ _ ?_
       clear hK21
       refine cond_f hA rfl ?_
       refine wp_skip ?_
       refine hK20 _ _ ?_
       clear hK20
       refine wp_exit ?_
       refine then_exit ?_
       refine exit_here ?_
       refine hK16 _ _ ?_
       clear hK16
       refine wp_region_lit ?_
       refine mv hA fun a hA => ?_
       refine sq hA (q_addI (n := 1) rfl rfl (by omega)) rfl fun a hA => ?_
       refine asg hA fun a hA => ?_
       refine wpList_nil ?_
       exact ⟨_, by omega, i + 1, had, T, V, N_t, N_v, hA.sub ⟨rfl, rfl, rfl, rfl, rfl, rfl, rfl, rfl, trivial⟩, hH, by omega, by first | exact a3 | exact hI, by first | exact hf | (rw [a5]; exact hf), by exact hg0, by omega, by first | omega | (rw [List.length_append, List.length_singleton]; omega), by first | exact hJ | (rw [a4, hJ, Nat.add_mul, Nat.one_mul]), by exact hT, by exact hV_v, rfl⟩
      ·skip
       refine mv hA fun a hA => ?_
       refine sl hA (lo_call fn22 rfl (add_vm (hg.mono0 hH) b_v b_t V T N_t N_v hV_v hT (fun _ => (hI.rdy (by omega)).mono (by decide)) hI.vok (Gl.ngs (Ns1 := [_, _]) hg NG.nil hH) _ _ (Own.rdM hO_t35 (Ns1 := [_, _]) hH 0 rfl) (HS.handed (Ns1 := [_, _]) hH))) rfl ?_
       rintro _ w ⟨N_t, N_v, rfl, hT, hV_v, hC⟩ a hA
       replace hH := HS.call (Ns1 := [_, _]) hH hC
       clear hC
       have ea := add_full hI hg0 (b := b) (by omega) (by omega)
       replace hT : TM 5 76 66 b_t T N_t := by rw [ea] at hT; exact hT
       replace hV_v : VM 5 32 68 b_v b_t V N_v := by rw [ea] at hV_v; exact hV_v
       rw [ea] at hA
       refine asg hA fun a hA => ?_
       refine wpList_nil ?_
       refine hK17 _ _ ?_
       clear hK17
       refine wp_seq_k fun K22 hK22 => ?_
       refine wp_seq_k fun K23 hK23 => ?_
       refine wp_region_lit ?_
       refine mv hA fun a hA => ?_
       refine sq hA (q_gtrI (n := 262080) rfl rfl) rfl fun a hA => ?_
       refine wpList_nil ?_
       refine hK23 _ _ ?_
       clear hK23
       refine cond_d hA rfl (fun hnn => absurd hnn ((by omega))) (fun _ => ?_)
       refine wp_skip ?_
       refine hK22 _ _ ?_
       clear hK22
       refine wp_seq_k fun K24 hK24 => ?_
       refine wp_seq_k fun K25 hK25 => ?_
       refine wp_region_lit ?_
       refine mv hA fun a hA => ?_
       refine sq hA (q_eqlI (n := 0) rfl rfl) rfl fun a hA => ?_
       replace hA := hA.decF (by show ¬ ((90 : Nat) : Int) = 0; decide)
       refine wpList_nil ?_
       refine hK25 _ _ ?_
       clear hK25
       refine cond_f hA rfl ?_
       refine wp_seq_k fun K26 hK26 => ?_
       refine wp_region_lit ?_
       refine mv hA fun a hA => ?_
       refine sq hA (q_neqI (n := 90) rfl rfl) rfl fun a hA => ?_
       replace hA := hA.decF (by exact fun h => h rfl)
       refine mv hA fun a hA => ?_
       refine gq hA rfl rfl (q_move rfl) rfl fun a hA => ?_
       refine gq hA rfl rfl (q_addI (n := 1) rfl rfl (by omega)) rfl fun a hA => ?_
       refine gq hA rfl rfl (q_move rfl) rfl fun a hA => ?_
       refine gq hA rfl rfl (q_addI (n := 30) rfl rfl (by omega)) rfl fun a hA => ?_
       refine gq hA rfl rfl (q_mulI rfl rfl (by rw [full_mul]; have := full_small (had := had) (n := n) (by omega) (by omega); omega)) rfl fun a hA => ?_
       refine gq hA rfl rfl (q_lssI (n := 1048576) rfl rfl) rfl fun a hA => ?_
       replace hA := hA.decF (by have h9 := full_odds hFl hJ hfull; rw [full_mul]; omega)
       refine sq hA (q_pick_f rfl rfl) rfl fun a hA => ?_
       refine wpList_nil ?_
       refine hK26 _ _ ?_
       clear hK26
       refine cond_f hA rfl ?_
       refine wp_skip ?_
       refine hK24 _ _ ?_
       clear hK24
       refine wp_seq_k fun K27 hK27 => ?_
       refine wp_region_lit ?_
       refine mv hA fun a hA => ?_
       replace hH := hH.pick [1, 0, 2] (Hs' := [_, _, _]) rfl
       refine sl hA (lo_call fn23 rfl (recs_vm b_v b_t V N_v hV_v hI.vok (HS.handed (Ns1 := [_]) hH))) rfl ?_
       rintro _ w ⟨v_t63, N_t63, N_dt63, N_v, rfl, hR_t63, hV_v, hC⟩ a hA
       replace hH := HS.call (Ns1 := [_]) hH hC
       clear hC
       rw [(outs_f hI.vd).2.2] at hR_t63
       refine sq hA (q_len Tryd.underlying33 rfl (RowsH.shp hR_t63)) rfl fun a hA => ?_
       refine mv hA fun a hA => ?_
       refine sq hA (q_neqI rfl rfl) rfl fun a hA => ?_
       replace hA := hA.decF (by exact fun h => h (by first | omega | (rw [List.length_append, List.length_singleton]; omega)))
       refine wpList_nil ?_
       refine hK27 _ _ ?_
       clear hK27
       refine cond_f hA rfl ?_
       refine wp_skip ?_
       refine block_normal ?_
       refine hK16 _ _ ?_
       clear hK16
       refine wp_region_lit ?_
       refine mv hA fun a hA => ?_
       refine sq hA (q_addI (n := 1) rfl rfl (by omega)) rfl fun a hA => ?_
       refine asg hA fun a hA => ?_
       refine wpList_nil ?_
       replace hH := hH.pick [3, 0, 4, 1, 2] (Hs' := [_, _, _, _, _]) rfl
       replace hH := hH.pick [0, 1, 2] (Hs' := [_, _, _]) rfl
       exact ⟨_, by omega, i + 1, had, T, V, N_t, N_v, hA.sub ⟨rfl, rfl, rfl, rfl, rfl, rfl, rfl, rfl, trivial⟩, hH, by omega, by first | exact a3 | exact hI, by first | exact hf | (rw [a5]; exact hf), by exact hg0, by omega, by first | omega | (rw [List.length_append, List.length_singleton]; omega), by first | exact hJ | (rw [a4, hJ, Nat.add_mul, Nat.one_mul]), by exact hT, by exact hV_v, rfl⟩
      ·skip
       refine mv hA fun a hA => ?_
       refine sl hA (lo_call fn22 rfl (add_vm (hg.mono0 hH) b_v b_t V T N_t N_v hV_v hT (fun _ => (hI.rdy (by omega)).mono (by decide)) hI.vok (Gl.ngs (Ns1 := [_, _]) hg NG.nil hH) _ _ (Own.rdM hO_t35 (Ns1 := [_, _]) hH 0 rfl) (HS.handed (Ns1 := [_, _]) hH))) rfl ?_
       rintro _ w ⟨N_t, N_v, rfl, hT, hV_v, hC⟩ a hA
       replace hH := HS.call (Ns1 := [_, _]) hH hC
       clear hC
       obtain ⟨a1, a2, a3, a4, a5⟩ := add_fit hI hf hg0 (b := b) (by omega) (by omega)
       obtain ⟨T1, hT1⟩ : ∃ z, z = (addV T V b).2.1 := ⟨_, rfl⟩
       rw [← hT1] at hT a3 a4 a5
       rw [a2] at hV_v
       rw [a1] at hA
       refine asg hA fun a hA => ?_
       refine wpList_nil ?_
       refine hK17 _ _ ?_
       clear hK17
       refine wp_seq_k fun K28 hK28 => ?_
       refine wp_seq_k fun K29 hK29 => ?_
       refine wp_region_lit ?_
       refine mv hA fun a hA => ?_
       refine sq hA (q_gtrI (n := 262080) rfl rfl) rfl fun a hA => ?_
       refine wpList_nil ?_
       refine hK29 _ _ ?_
       clear hK29
       refine cond_d hA rfl (fun hnn => absurd hnn ((by omega))) (fun _ => ?_)
       refine wp_skip ?_
       refine hK28 _ _ ?_
       clear hK28
       refine wp_seq_k fun K30 hK30 => ?_
       refine wp_seq_k fun K31 hK31 => ?_
       refine wp_region_lit ?_
       refine mv hA fun a hA => ?_
       refine sq hA (q_eqlI (n := 0) rfl rfl) rfl fun a hA => ?_
       replace hA := hA.decT (by rfl)
       refine wpList_nil ?_
       refine hK31 _ _ ?_
       clear hK31
       refine cond_t hA rfl ?_
       refine wp_region_lit ?_
       refine mv hA fun a hA => ?_
       refine sq hA (q_addI (n := 1) rfl rfl (by omega)) rfl fun a hA => ?_
       refine asg hA fun a hA => ?_
       refine wpList_nil ?_
       refine hK30 _ _ ?_
       clear hK30
       refine wp_seq_k fun K32 hK32 => ?_
       refine wp_region_lit ?_
       refine mv hA fun a hA => ?_
       replace hH := hH.pick [1, 0, 2] (Hs' := [_, _, _]) rfl
       refine sl hA (lo_call fn23 rfl (recs_vm b_v b_t ⟨V.gen, V.text, V.recs ++ [b], false⟩ N_v hV_v a3.vok (HS.handed (Ns1 := [_]) hH))) rfl ?_
       rintro _ w ⟨v_t63, N_t63, N_dt63, N_v, rfl, hR_t63, hV_v, hC⟩ a hA
       replace hH := HS.call (Ns1 := [_]) hH hC
       clear hC
       replace hR_t63 : RowsH 32 v_t63 (V.recs ++ [b]) N_t63 N_dt63 := hR_t63
       refine sq hA (q_len Tryd.underlying33 rfl (RowsH.shp hR_t63)) rfl fun a hA => ?_
       refine mv hA fun a hA => ?_
       refine sq hA (q_neqI rfl rfl) rfl fun a hA => ?_
       replace hA := hA.decF (by exact fun h => h (by first | omega | (rw [List.length_append, List.length_singleton]; omega)))
       refine wpList_nil ?_
       refine hK32 _ _ ?_
       clear hK32
       refine cond_f hA rfl ?_
       refine wp_skip ?_
       refine block_normal ?_
       refine hK16 _ _ ?_
       clear hK16
       refine wp_region_lit ?_
       refine mv hA fun a hA => ?_
       refine sq hA (q_addI (n := 1) rfl rfl (by omega)) rfl fun a hA => ?_
       refine asg hA fun a hA => ?_
       refine wpList_nil ?_
       replace hH := hH.pick [3, 0, 4, 1, 2] (Hs' := [_, _, _, _, _]) rfl
       replace hH := hH.pick [0, 1, 2] (Hs' := [_, _, _]) rfl
       exact ⟨_, by omega, i + 1, had + 1, T1, ⟨V.gen, V.text, V.recs ++ [b], false⟩, N_t, N_v, hA.sub ⟨rfl, rfl, rfl, rfl, rfl, rfl, rfl, rfl, trivial⟩, hH, by omega, by first | exact a3 | exact hI, by first | exact hf | (rw [a5]; exact hf), by exact hg0, by omega, by first | omega | (rw [List.length_append, List.length_singleton]; omega), by first | exact hJ | (rw [a4, hJ, Nat.add_mul, Nat.one_mul]), by exact hT, by exact hV_v, rfl⟩
     ·skip
      refine wp_exit ?_
      refine then_exit ?_
      refine then_exit ?_
      refine exit_here ?_
      refine hK12 _ _ ?_
      clear hK12
      replace hA := hA.s5 8 7 6 4 0
      refine wp_seq_k fun K33 hK33 => ?_
      refine wp_region_lit ?_
      refine mv hA fun a hA => ?_
      rcases Nat.lt_or_ge 262080 n with hbig | hn
      ·skip
       refine mv hA fun a hA => ?_
       refine sl hA (lo_call fn24 rfl (save_vm (hg.mono0 hH) b_v b_t V T N_t N_v hV_v hT (fun _ => (hI.rdy (by omega)).mono (by decide)) hI.vok (Gl.ngs (Ns1 := [_, _]) hg NG.nil hH) _ _ (Own.rdM hO_t35 (Ns1 := [_, _]) hH 0 rfl) (HS.handed (Ns1 := [_, _]) hH))) rfl ?_
       rintro _ w ⟨N_t, N_v, rfl, hT, hV_v, hC⟩ a hA
       replace hH := HS.call (Ns1 := [_, _]) hH hC
       clear hC
       have ea := saveV_2 (T := T) (V := V) (b := b) hI.vd (by omega)
       replace hT : TM 5 76 66 b_t T N_t := by rw [ea] at hT; exact hT
       replace hV_v : VM 5 32 68 b_v b_t V N_v := by rw [ea] at hV_v; exact hV_v
       rw [ea] at hA
       refine asg hA fun a hA => ?_
       refine wpList_nil ?_
       refine hK33 _ _ ?_
       clear hK33
       replace hA := hA.s5 12 7 6 4 0
       refine wp_seq_k fun K34 hK34 => ?_
       refine wp_seq_k fun K35 hK35 => ?_
       refine wp_region_lit ?_
       refine mv hA fun a hA => ?_
       refine sq hA (q_gtrI (n := 262080) rfl rfl) rfl fun a hA => ?_
       refine wpList_nil ?_
       refine hK35 _ _ ?_
       clear hK35
       replace hA := hA.s6 71 12 7 6 4 0
       refine cond_d hA rfl (fun _ => ?_) (fun hnn => absurd ((by omega)) hnn)
       refine wp_seq_k fun K36 hK36 => ?_
       refine wp_region_lit ?_
       refine mv hA fun a hA => ?_
       refine sq hA (q_eqlI (n := 0) rfl rfl) rfl fun a hA => ?_
       replace hA := hA.decT (by first | rfl | omega | assumption | (simp; done) | (simp [*]; done))
       refine mv hA fun a hA => ?_
       refine gq hA rfl rfl (q_move rfl) rfl fun a hA => ?_
       refine gq hA rfl rfl (q_eqlI (n := 42) rfl rfl) rfl fun a hA => ?_
       refine sq hA (q_pick_t rfl rfl) rfl fun a hA => ?_
       replace hA := hA.decT (by first | rfl | omega | assumption | (simp; done) | (simp [*]; done))
       refine mv hA fun a hA => ?_
       refine gq hA rfl rfl (q_move rfl) rfl fun a hA => ?_
       replace hH := hH.pick [1, 0, 2] (Hs' := [_, _, _]) rfl
       refine gl hA rfl rfl (lo_call fn25 rfl (gen_vm b_v b_t V N_v hV_v hI.vok (HS.handed (Ns1 := [_]) hH))) rfl ?_
       rintro _ w ⟨N_v, rfl, hV_v, hC⟩ a hA
       replace hH := HS.call (Ns1 := [_]) hH hC
       clear hC
       refine gq hA rfl rfl (q_eqlI (n := 0) rfl rfl) rfl fun a hA => ?_
       refine sq hA (q_pick_t rfl rfl) rfl fun a hA => ?_
       replace hA := hA.decT (by rw [(outs_f hI.vd).1, hg0]; rfl)
       refine mv hA fun a hA => ?_
       refine gl hA rfl rfl (lo_call fn11 rfl (awake12_any (hg.mono0 hH))) rfl ?_
       rintro _ w ⟨rfl, hC⟩ a hA
       replace hH := HS.call0 hH hC
       clear hC
       refine sq hA (q_pick_t rfl rfl) rfl fun a hA => ?_
       refine asg hA fun a hA => ?_
       refine wpList_nil ?_
       refine hK36 _ _ ?_
       clear hK36
       replace hA := hA.s5 4 12 7 6 0
       refine wp_ret ?_
       refine then_ret ?_
       refine post_ret hA (res_1 rfl hA rfl) ?_
       replace hH := hH.pick [] (Hs' := []) rfl
       exact ⟨_, rfl, rfl, hH⟩
      ·skip
       refine mv hA fun a hA => ?_
       refine sl hA (lo_call fn24 rfl (save_i (hg.mono0 hH) b_v b_t hV_v hT hI hf (Gl.ngs (Ns1 := [_, _]) hg NG.nil hH) _ _ (Own.rdM hO_t35 (Ns1 := [_, _]) hH 0 rfl) (by first | omega | (simp; done) | (simp; omega)) (by omega) (HS.handed (Ns1 := [_, _]) hH))) rfl ?_
       rintro _ w ⟨T2, N_t, N_v, rfl, hI_T2, hf_T2, hs_T2, hz0_T2, hT, hV_v, hC⟩ a hA
       replace hH := HS.call (Ns1 := [_, _]) hH hC
       clear hC
       refine asg hA fun a hA => ?_
       refine wpList_nil ?_
       refine hK33 _ _ ?_
       clear hK33
       replace hA := hA.s5 12 7 6 4 0
       refine wp_seq_k fun K37 hK37 => ?_
       refine wp_seq_k fun K38 hK38 => ?_
       refine wp_region_lit ?_
       refine mv hA fun a hA => ?_
       refine sq hA (q_gtrI (n := 262080) rfl rfl) rfl fun a hA => ?_
       refine wpList_nil ?_
       refine hK38 _ _ ?_
       clear hK38
       replace hA := hA.s6 71 12 7 6 4 0
       refine cond_d hA rfl (fun hnn => absurd hnn ((by omega))) (fun _ => ?_)
       refine wp_skip ?_
       refine hK37 _ _ ?_
       clear hK37
       replace hA := hA.s5 12 7 6 4 0
       refine wp_seq_k fun K39 hK39 => ?_
       refine wp_region_lit ?_
       refine mv hA fun a hA => ?_
       refine sq hA (q_eqlI (n := 0) rfl rfl) rfl fun a hA => ?_
       replace hA := hA.decT (by first | rfl | omega | assumption | (simp; done) | (simp [*]; done))
       refine mv hA fun a hA => ?_
       refine gq hA rfl rfl (q_move rfl) rfl fun a hA => ?_
       refine gq hA rfl rfl (q_eqlI (n := 0) rfl rfl) rfl fun a hA => ?_
       refine sq hA (q_pick_t rfl rfl) rfl fun a hA => ?_
       replace hA := hA.decT (by first | rfl | omega | assumption | (simp; done) | (simp [*]; done))
       refine mv hA fun a hA => ?_
       refine gq hA rfl rfl (q_move rfl) rfl fun a hA => ?_
       replace hH := hH.pick [1, 0, 2] (Hs' := [_, _, _]) rfl
       refine gl hA rfl rfl (lo_call fn25 rfl (gen_vm b_v b_t (⟨V.gen + 1, b, [], false⟩ : Vs) N_v hV_v hI_T2.vok (HS.handed (Ns1 := [_]) hH))) rfl ?_
       rintro _ w ⟨N_v, rfl, hV_v, hC⟩ a hA
       replace hH := HS.call (Ns1 := [_]) hH hC
       clear hC
       refine gq hA rfl rfl (q_eqlI (n := 1) rfl rfl) rfl fun a hA => ?_
       refine sq hA (q_pick_t rfl rfl) rfl fun a hA => ?_
       replace hA := hA.decT (by show ((V.gen + 1 : Nat) : Int) = 1; omega)
       refine mv hA fun a hA => ?_
       refine gq hA rfl rfl (q_move rfl) rfl fun a hA => ?_
       refine gl hA rfl rfl (lo_call fn26 rfl (text_vm b_v b_t (⟨V.gen + 1, b, [], false⟩ : Vs) N_v hV_v hI_T2.vok (HS.handed (Ns1 := [_]) hH))) rfl ?_
       rintro _ w ⟨v_t99, N_t99, N_v, rfl, hO_t99, hV_v, hC⟩ a hA
       replace hH := HS.call (Ns1 := [_]) hH hC
       clear hC
       replace hO_t99 : Ow B8 5 v_t99 b N_t99 := hO_t99
       refine gq hA rfl rfl (q_len Tryd.underlying32 rfl (Own.shp hO_t99)) rfl fun a hA => ?_
       refine gq hA rfl rfl (q_move rfl) rfl fun a hA => ?_
       refine gq hA rfl rfl (q_eqlI rfl rfl) rfl fun a hA => ?_
       refine sq hA (q_pick_t rfl rfl) rfl fun a hA => ?_
       replace hA := hA.decT (by omega)
       refine mv hA fun a hA => ?_
       refine gq hA rfl rfl (q_move rfl) rfl fun a hA => ?_
       refine gl hA rfl rfl (lo_call fn23 rfl (recs_vm b_v b_t (⟨V.gen + 1, b, [], false⟩ : Vs) N_v hV_v hI_T2.vok (HS.handed (Ns1 := [_]) hH))) rfl ?_
       rintro _ w ⟨v_t106, N_t106, N_dt106, N_v, rfl, hR_t106, hV_v, hC⟩ a hA
       replace hH := HS.call (Ns1 := [_]) hH hC
       clear hC
       replace hR_t106 : RowsH 32 v_t106 [] N_t106 N_dt106 := hR_t106
       refine gq hA rfl rfl (q_len Tryd.underlying33 rfl (RowsH.shp hR_t106)) rfl fun a hA => ?_
       refine gq hA rfl rfl (q_eqlI (n := 0) rfl rfl) rfl fun a hA => ?_
       refine sq hA (q_pick_t rfl rfl) rfl fun a hA => ?_
       replace hA := hA.decT (by first | rfl | omega | assumption | (simp; done) | (simp [*]; done))
       refine mv hA fun a hA => ?_
       refine gl hA rfl rfl (lo_call fn11 rfl (awake12_any (hg.mono0 hH))) rfl ?_
       rintro _ w ⟨rfl, hC⟩ a hA
       replace hH := HS.call0 hH hC
       clear hC
       refine sq hA (q_pick_t rfl rfl) rfl fun a hA => ?_
       refine asg hA fun a hA => ?_
       refine wpList_nil ?_
       refine hK39 _ _ ?_
       clear hK39
       replace hA := hA.s1 4
       refine wp_ret ?_
       refine post_ret hA (res_1 rfl hA rfl) ?_
       replace hH := hH.pick [] (Hs' := []) rfl
       exact ⟨_, rfl, rfl, hH⟩

end Go.Proofs.YthhdilafnfcpbaaDoor
