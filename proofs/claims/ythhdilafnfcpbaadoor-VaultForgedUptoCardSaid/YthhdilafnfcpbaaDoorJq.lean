/- Layer 12 (vault): the law VaultForged. -/
import Derived.Test.YthhdilafnfcpbaaDoorJo
import Derived.Test.YthhdilafnfcpbaaDoorJp
namespace Go.Proofs.YthhdilafnfcpbaaDoor
open Go
set_option linter.unusedVariables false
set_option linter.unusedSimpArgs false
set_option maxRecDepth 100000

set_option maxHeartbeats 2000000 in
theorem vaultForged_any {w0 : World} (hg : Gl 2 w0) (v v1 v2 : Value) (l l1 l2 : Bs) (hr : By [] w0 v l) (hr1 : By [] w0 v1 l1) (hr2 : By [] w0 v2 l2) (hl : l.length ≤ 1048576) (hl1 : l1.length ≤ 1048576) (hl2 : l2.length ≤ 1048576) :
    Calls Tryd.prog 4 #[v, v1, v2] w0 (Ret fun r w' => r = .bool true ∧ HS [] w0 w' []) := by
 have hH := HS.start w0
 refine start (n := 95) (E := [(0, _), (1, _), (2, _)]) Tryd.func4 rfl rfl rfl (args_look rfl) ?_
 intro a hA
 refine wp_seq_k fun K1 hK1 => ?_
 refine wp_region_lit ?_
 refine asg hA fun a hA => ?_
 refine wpList_nil ?_
 refine hK1 _ _ ?_
 clear hK1
 refine wp_seq_k fun K2 hK2 => ?_
 refine wp_seq_k fun K3 hK3 => ?_
 refine wp_region_lit ?_
 refine mv hA fun a hA => ?_
 refine sq hA (q_len Tryd.underlying32 rfl (Rd.shp hr)) rfl fun a hA => ?_
 refine sq hA (q_gtrI (n := 3000) rfl rfl) rfl fun a hA => ?_
 refine hA.spl (fun hs18 hA => ?_) (fun hs18 hA => ?_)
 ·skip
  refine mv hA fun a hA => ?_
  refine gs hA rfl rfl rfl rfl fun a hA => ?_
  refine gs hA rfl rfl rfl rfl fun a hA => ?_
  refine gs hA rfl rfl rfl rfl fun a hA => ?_
  refine sq hA (q_pick_t rfl rfl) rfl fun a hA => ?_
  refine mv hA fun a hA => ?_
  refine gs hA rfl rfl rfl rfl fun a hA => ?_
  refine gs hA rfl rfl rfl rfl fun a hA => ?_
  refine gs hA rfl rfl rfl rfl fun a hA => ?_
  refine sq hA (q_pick_t rfl rfl) rfl fun a hA => ?_
  refine wpList_nil ?_
  refine hK3 _ _ ?_
  clear hK3
  replace hA := hA.s5 28 6 0 1 2
  refine cond_t hA rfl ?_
  refine wp_seq_k fun K4 hK4 => ?_
  refine wp_region_lit ?_
  refine sl hA (lo_call fn11 rfl (awake12_any (hg.mono0 hH))) rfl ?_
  rintro _ w ⟨rfl, hC⟩ a hA
  replace hH := HS.call0 hH hC
  clear hC
  refine asg hA fun a hA => ?_
  refine wpList_nil ?_
  refine hK4 _ _ ?_
  clear hK4
  replace hA := hA.s4 6 0 1 2
  refine wp_ret ?_
  refine then_ret ?_
  refine post_ret hA (res_1 rfl hA rfl) ?_
  exact ⟨_, rfl, rfl, hH⟩
 ·skip
  refine mv hA fun a hA => ?_
  refine gq hA rfl rfl (q_move rfl) rfl fun a hA => ?_
  refine gq hA rfl rfl (q_len Tryd.underlying32 rfl (Rd.shp hr1)) rfl fun a hA => ?_
  refine gq hA rfl rfl (q_gtrI (n := 3000) rfl rfl) rfl fun a hA => ?_
  refine hA.spl (fun hs22 hA => ?_) (fun hs22 hA => ?_)
  ·skip
   refine sq hA (q_pick_f rfl rfl) rfl fun a hA => ?_
   refine mv hA fun a hA => ?_
   refine gs hA rfl rfl rfl rfl fun a hA => ?_
   refine gs hA rfl rfl rfl rfl fun a hA => ?_
   refine gs hA rfl rfl rfl rfl fun a hA => ?_
   refine sq hA (q_pick_t rfl rfl) rfl fun a hA => ?_
   refine wpList_nil ?_
   refine hK3 _ _ ?_
   clear hK3
   replace hA := hA.s5 28 6 0 1 2
   refine cond_t hA rfl ?_
   refine wp_seq_k fun K5 hK5 => ?_
   refine wp_region_lit ?_
   refine sl hA (lo_call fn11 rfl (awake12_any (hg.mono0 hH))) rfl ?_
   rintro _ w ⟨rfl, hC⟩ a hA
   replace hH := HS.call0 hH hC
   clear hC
   refine asg hA fun a hA => ?_
   refine wpList_nil ?_
   refine hK5 _ _ ?_
   clear hK5
   replace hA := hA.s4 6 0 1 2
   refine wp_ret ?_
   refine then_ret ?_
   refine post_ret hA (res_1 rfl hA rfl) ?_
   exact ⟨_, rfl, rfl, hH⟩
  ·skip
   refine sq hA (q_pick_f rfl rfl) rfl fun a hA => ?_
   refine mv hA fun a hA => ?_
   refine gq hA rfl rfl (q_move rfl) rfl fun a hA => ?_
   refine gq hA rfl rfl (q_len Tryd.underlying32 rfl (Rd.shp hr2)) rfl fun a hA => ?_
   refine gq hA rfl rfl (q_gtrI (n := 3000) rfl rfl) rfl fun a hA => ?_
   refine hA.spl (fun hs27 hA => ?_) (fun hs27 hA => ?_)
   ·skip
    refine sq hA (q_pick_f rfl rfl) rfl fun a hA => ?_
    refine wpList_nil ?_
    refine hK3 _ _ ?_
    clear hK3
    replace hA := hA.s5 28 6 0 1 2
    refine cond_t hA rfl ?_
    refine wp_seq_k fun K6 hK6 => ?_
    refine wp_region_lit ?_
    refine sl hA (lo_call fn11 rfl (awake12_any (hg.mono0 hH))) rfl ?_
    rintro _ w ⟨rfl, hC⟩ a hA
    replace hH := HS.call0 hH hC
    clear hC
    refine asg hA fun a hA => ?_
    refine wpList_nil ?_
    refine hK6 _ _ ?_
    clear hK6
    replace hA := hA.s4 6 0 1 2
    refine wp_ret ?_
    refine then_ret ?_
    refine post_ret hA (res_1 rfl hA rfl) ?_
    exact ⟨_, rfl, rfl, hH⟩
   ·skip
    have hl3 : l.length ≤ 3000 := by omega
    have hl13 : l1.length ≤ 3000 := by omega
    have hl23 : l2.length ≤ 3000 := by omega
    have hk0 : Rdy newT 0 := Inv_new.rdy (by decide)
    have hk1 := hk0.app 0 l
    have hk2 := hk1.app 1 l1
    refine sq hA (q_pick_f rfl rfl) rfl fun a hA => ?_
    refine wpList_nil ?_
    refine hK3 _ _ ?_
    clear hK3
    replace hA := hA.s5 28 6 0 1 2
    refine cond_f hA rfl ?_
    refine wp_skip ?_
    refine hK2 _ _ ?_
    clear hK2
    replace hA := hA.s4 6 0 1 2
    refine wp_seq_k fun K7 hK7 => ?_
    refine wp_region_lit ?_
    refine sl hA (lo_call fn12 rfl newt_tm) rfl ?_
    rintro _ w ⟨b_t, N_t, rfl, hT, hC⟩ a hA
    replace hH := HS.call0 hH hC
    clear hC
    refine asg hA fun a hA => ?_
    refine wpList_nil ?_
    refine hK7 _ _ ?_
    clear hK7
    replace hA := hA.s5 7 6 0 1 2
    refine wp_seq_k fun K8 hK8 => ?_
    refine wp_region_lit ?_
    refine mv hA fun a hA => ?_
    refine mv hA fun a hA => ?_
    refine sl hA (lo_call fn18 rfl (lown12_any _ _ (hH.rd hr) (by first | omega | (simp; done) | (simp; omega)))) rfl ?_
    rintro _ w ⟨v_t33, N_t33, rfl, hO_t33, hC⟩ a hA
    replace hH := HS.call0 hH hC
    clear hC
    replace hH := hH.pick [1, 0] (Hs' := [_, _]) rfl
    refine sl hA (lo_call fn17 rfl (app_tm b_t newT N_t hT 0 (by decide) (hk0.fz) (Nat.le_trans (hk0.op _) (by omega)) _ _ (by omega) (Own.rdM hO_t33 (Ns1 := [_]) hH 0 rfl) (HS.handed (Ns1 := [_]) hH))) rfl ?_
    rintro _ w ⟨N_t, rfl, hT, hC⟩ a hA
    replace hH := HS.call (Ns1 := [_]) hH hC
    clear hC
    refine wpList_nil ?_
    refine hK8 _ _ ?_
    clear hK8
    replace hA := hA.s5 7 6 0 1 2
    refine wp_seq_k fun K9 hK9 => ?_
    refine wp_region_lit ?_
    refine mv hA fun a hA => ?_
    refine mv hA fun a hA => ?_
    refine sl hA (lo_call fn18 rfl (lown12_any _ _ (hH.rd hr1) (by first | omega | (simp; done) | (simp; omega)))) rfl ?_
    rintro _ w ⟨v_t37, N_t37, rfl, hO_t37, hC⟩ a hA
    replace hH := HS.call0 hH hC
    clear hC
    replace hH := hH.pick [1, 0, 2] (Hs' := [_, _, _]) rfl
    refine sl hA (lo_call fn17 rfl (app_tm b_t (newT.app 0 l).2 N_t hT 1 (by decide) (hk1.fz) (Nat.le_trans (hk1.op _) (by omega)) _ _ (by omega) (Own.rdM hO_t37 (Ns1 := [_]) hH 0 rfl) (HS.handed (Ns1 := [_]) hH))) rfl ?_
    rintro _ w ⟨N_t, rfl, hT, hC⟩ a hA
    replace hH := HS.call (Ns1 := [_]) hH hC
    clear hC
    refine wpList_nil ?_
    refine hK9 _ _ ?_
    clear hK9
    replace hA := hA.s5 7 6 0 1 2
    refine wp_seq_k fun K10 hK10 => ?_
    refine wp_region_lit ?_
    refine mv hA fun a hA => ?_
    refine mv hA fun a hA => ?_
    refine sl hA (lo_call fn18 rfl (lown12_any _ _ (hH.rd hr2) (by first | omega | (simp; done) | (simp; omega)))) rfl ?_
    rintro _ w ⟨v_t41, N_t41, rfl, hO_t41, hC⟩ a hA
    replace hH := HS.call0 hH hC
    clear hC
    replace hH := hH.pick [1, 0, 2, 3] (Hs' := [_, _, _, _]) rfl
    refine sl hA (lo_call fn17 rfl (app_tm b_t ((newT.app 0 l).2.app 1 l1).2 N_t hT 2 (by decide) (hk2.fz) (Nat.le_trans (hk2.op _) (by omega)) _ _ (by omega) (Own.rdM hO_t41 (Ns1 := [_]) hH 0 rfl) (HS.handed (Ns1 := [_]) hH))) rfl ?_
    rintro _ w ⟨N_t, rfl, hT, hC⟩ a hA
    replace hH := HS.call (Ns1 := [_]) hH hC
    clear hC
    rw [forT_app hl3 hl13 hl23] at hT
    obtain ⟨hR3, hz3⟩ := forT_rdy hl3 hl13 hl23
    obtain ⟨hm1, hm2, hm3, hm4, hm5, hm6, hm7, hm8⟩ := mend_neg (T := forT l l1 l2) rfl (by show (-1 : Int) < 0; decide) hR3.ok
    have hop : opnT (forT l l1 l2) = (⟨(opnV l l1 l2).1, (opnV l l1 l2).2.1, (opnV l l1 l2).2.2, false⟩ : Vs) := rfl
    have hO := opnV_vok l l1 l2 (by omega)
    rw [hop] at hm7
    have hR4 := hR3.mend
    obtain ⟨T4, hT4⟩ : ∃ T, T = (mend (forT l l1 l2)).2 := ⟨_, rfl⟩
    rw [← hT4] at hm2 hm3 hm4 hm5 hm6 hm7 hm8 hR4
    have hz4 : Sz T4 3000 := fun i => by rcases Nat.eq_zero_or_pos i with h | h; (rw [h, hm5, List.length_take]; exact Nat.le_trans (Nat.min_le_right _ _) hl3); (rw [hm6 i h]; exact hz3 i)
    have hd4 : T4.down = false := hm2
    refine wpList_nil ?_
    refine hK10 _ _ ?_
    clear hK10
    replace hA := hA.s5 7 6 0 1 2
    refine wp_seq_k fun K11 hK11 => ?_
    refine wp_region_lit ?_
    refine mv hA fun a hA => ?_
    refine sl hA (lo_call fn13 rfl (open_ok (hg.mono0 hH) b_t (forT l l1 l2) N_t hT (hR3.mono (by decide)) rfl (hz3.mono (by decide)) hm1 (hg.ng NG.nil hH) (HS.handed (Ns1 := [_]) hH))) rfl ?_
    rintro _ w ⟨b_v, N_t, N_v, rfl, hT, hV_v, hC⟩ a hA
    replace hH := HS.call (Ns1 := [_]) hH hC
    clear hC
    rw [← hT4] at hT
    rw [hop] at hV_v
    refine mv hA fun a hA => ?_
    refine sq hA (q_extract rfl rfl) rfl fun a hA => ?_
    refine sq hA (q_extract rfl rfl) rfl fun a hA => ?_
    refine asg hA fun a hA => ?_
    refine asg hA fun a hA => ?_
    refine wpList_nil ?_
    refine hK11 _ _ ?_
    clear hK11
    replace hA := hA.s7 9 8 7 6 0 1 2
    refine wp_seq_k fun K12 hK12 => ?_
    refine wp_region_lit ?_
    refine mv hA fun a hA => ?_
    refine mv hA fun a hA => ?_
    refine mv hA fun a hA => ?_
    refine sl hA (lo_call fn19 rfl (refopen_any (hg.mono0 hH) _ _ _ _ _ _ (hH.rd hr) (hH.rd hr1) (hH.rd hr2) (by omega) (by omega) (by omega))) rfl ?_
    rintro _ w ⟨b_m, N_m, rfl, hM, hC⟩ a hA
    replace hH := HS.call0 hH hC
    clear hC
    refine mv hA fun a hA => ?_
    refine sq hA (q_extract rfl rfl) rfl fun a hA => ?_
    refine sq hA (q_extract rfl rfl) rfl fun a hA => ?_
    refine asg hA fun a hA => ?_
    refine asg hA fun a hA => ?_
    refine wpList_nil ?_
    refine hK12 _ _ ?_
    clear hK12
    replace hA := hA.s7 11 10 9 8 7 6 0
    refine wp_seq_k fun K13 hK13 => ?_
    refine wp_region_lit ?_
    refine mv hA fun a hA => ?_
    replace hH := hH.pick [1, 0, 2, 3, 4, 5] (Hs' := [_, _, _, _, _, _]) rfl
    refine sl hA (lo_call fn20 rfl (read_tm b_t T4 N_t hT 0 (by decide) hR4.fz hd4 (Nat.le_trans (hz4 0) (by decide)) (HS.handed (Ns1 := [_]) hH))) rfl ?_
    rintro _ w ⟨v_t57, N_t57, N_t, rfl, hO_t57, hT, hC⟩ a hA
    replace hH := HS.call (Ns1 := [_]) hH hC
    clear hC
    have hz40 := hz4 0
    refine mv hA fun a hA => ?_
    refine sq hA (q_extract rfl rfl) rfl fun a hA => ?_
    refine sq hA (q_extract rfl rfl) rfl fun a hA => ?_
    refine asg hA fun a hA => ?_
    refine asg hA fun a hA => ?_
    refine wpList_nil ?_
    refine hK13 _ _ ?_
    clear hK13
    replace hA := hA.s9 13 12 11 10 9 8 7 6 0
    refine wp_seq_k fun K14 hK14 => ?_
    refine wp_region_lit ?_
    refine mv hA fun a hA => ?_
    refine sl hA (lo_call fn13 rfl (open_ok (hg.mono0 hH) b_t T4 N_t hT (hR4.mono (by decide)) hd4 (hz4.mono (by decide)) (by rw [hm8]) (hg.ng NG.nil hH) (HS.handed (Ns1 := [_]) hH))) rfl ?_
    rintro _ w ⟨b_w, N_t, N_w, rfl, hT, hV_w, hC⟩ a hA
    replace hH := HS.call (Ns1 := [_]) hH hC
    clear hC
    rw [hm8] at hT
    rw [hm7] at hV_w
    refine mv hA fun a hA => ?_
    refine sq hA (q_extract rfl rfl) rfl fun a hA => ?_
    refine sq hA (q_extract rfl rfl) rfl fun a hA => ?_
    refine asg hA fun a hA => ?_
    refine asg hA fun a hA => ?_
    refine wpList_nil ?_
    refine hK14 _ _ ?_
    clear hK14
    replace hA := hA.s10 15 14 13 12 11 10 9 8 6 0
    refine wp_seq_k fun K15 hK15 => ?_
    refine wp_region_lit ?_
    refine mv hA fun a hA => ?_
    refine sq hA (q_eqlI (n := 0) rfl rfl) rfl fun a hA => ?_
    replace hA := hA.decT (by first | rfl | omega | assumption | (simp; done) | (simp [*]; done))
    refine mv hA fun a hA => ?_
    refine gq hA rfl rfl (q_move rfl) rfl fun a hA => ?_
    refine gq hA rfl rfl (q_eqlI (n := 0) rfl rfl) rfl fun a hA => ?_
    refine sq hA (q_pick_t rfl rfl) rfl fun a hA => ?_
    replace hA := hA.decT (by first | rfl | omega | assumption | (simp; done) | (simp [*]; done))
    refine mv hA fun a hA => ?_
    refine gq hA rfl rfl (q_move rfl) rfl fun a hA => ?_
    refine gq hA rfl rfl (q_eqlI (n := 0) rfl rfl) rfl fun a hA => ?_
    refine sq hA (q_pick_t rfl rfl) rfl fun a hA => ?_
    replace hA := hA.decT (by first | rfl | omega | assumption | (simp; done) | (simp [*]; done))
    refine mv hA fun a hA => ?_
    refine gq hA rfl rfl (q_move rfl) rfl fun a hA => ?_
    refine gq hA rfl rfl (q_move rfl) rfl fun a hA => ?_
    replace hH := hH.pick [4, 3, 0, 1, 2, 5, 6, 7] (Hs' := [_, _, _, _, _, _, _, _]) rfl
    refine gl hA rfl rfl (lo_call fn14 rfl (same_vm b_v b_t _ N_v hV_v hO b_m _ _ _ N_m hM hO.tl (fun y hy => Nat.le_trans (hO.rl y hy) (by decide)) hO.rn (HS.handed (Ns1 := [_, _]) hH))) rfl ?_
    rintro _ w ⟨N_v, N_m, rfl, hV_v, hM, hC⟩ a hA
    replace hH := HS.call (Ns1 := [_, _]) hH hC
    clear hC
    refine sq hA (q_pick_t rfl rfl) rfl fun a hA => ?_
    replace hA := hA.decT (by exact ⟨rfl, rfl, rfl⟩)
    refine mv hA fun a hA => ?_
    refine gq hA rfl rfl (q_move rfl) rfl fun a hA => ?_
    refine gq hA rfl rfl (q_move rfl) rfl fun a hA => ?_
    refine gq hA rfl rfl (q_move rfl) rfl fun a hA => ?_
    obtain ⟨v_t84, hv_t84, hP_t84⟩ := By.piece0 (Rd.shp hr) ((jgood l)) (by have := jgood_le l; omega) rfl
    refine gq hA rfl rfl (q_slice Tryd.underlying32 ti5 rfl (0) ((jgood l)) hv_t84 (Rd.shp hr) rfl rfl (rfl) (rfl) (by have := jgood_le l; omega) (by have := jgood_le l; omega)) rfl fun a hA => ?_
    have hjt : (l.take (jgood l)).length ≤ 3000 := by rw [List.length_take]; omega
    refine gl hA rfl rfl (lo_call fn21 rfl (same_any _ _ _ _ (Own.rd0 hO_t57 hH 4 rfl) (hH.rd (hP_t84 _ _ hr)) (by first | omega | (simp; done) | (simp; omega)) (by first | omega | (simp; done) | (simp; omega)))) rfl ?_
    rintro _ w ⟨rfl, hC⟩ a hA
    replace hH := HS.call0 hH hC
    clear hC
    refine sq hA (q_pick_t rfl rfl) rfl fun a hA => ?_
    replace hA := hA.decT (by exact hm5)
    refine mv hA fun a hA => ?_
    refine gq hA rfl rfl (q_move rfl) rfl fun a hA => ?_
    refine gq hA rfl rfl (q_move rfl) rfl fun a hA => ?_
    replace hH := hH.pick [3, 1, 0, 2, 4, 5, 6, 7] (Hs' := [_, _, _, _, _, _, _, _]) rfl
    refine gl hA rfl rfl (lo_call fn14 rfl (same_vm b_w b_t _ N_w hV_w hO b_m _ _ _ N_m hM hO.tl (fun y hy => Nat.le_trans (hO.rl y hy) (by decide)) hO.rn (HS.handed (Ns1 := [_, _]) hH))) rfl ?_
    rintro _ w ⟨N_w, N_m, rfl, hV_w, hM, hC⟩ a hA
    replace hH := HS.call (Ns1 := [_, _]) hH hC
    clear hC
    refine sq hA (q_pick_t rfl rfl) rfl fun a hA => ?_
    replace hA := hA.decT (by exact ⟨rfl, rfl, rfl⟩)
    refine mv hA fun a hA => ?_
    refine gl hA rfl rfl (lo_call fn11 rfl (awake12_any (hg.mono0 hH))) rfl ?_
    rintro _ w ⟨rfl, hC⟩ a hA
    replace hH := HS.call0 hH hC
    clear hC
    refine sq hA (q_pick_t rfl rfl) rfl fun a hA => ?_
    refine asg hA fun a hA => ?_
    refine wpList_nil ?_
    refine hK15 _ _ ?_
    clear hK15
    replace hA := hA.s1 6
    refine wp_ret ?_
    refine post_ret hA (res_1 rfl hA rfl) ?_
    replace hH := hH.pick [] (Hs' := []) rfl
    exact ⟨_, rfl, rfl, hH⟩

end Go.Proofs.YthhdilafnfcpbaaDoor
