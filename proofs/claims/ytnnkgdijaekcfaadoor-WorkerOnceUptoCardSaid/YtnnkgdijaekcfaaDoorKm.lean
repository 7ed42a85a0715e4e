/- Layer 22 (worker): the law WorkerOnce. -/
import Derived.Test.YtnnkgdijaekcfaaDoorKl
import Derived.Test.YtnnkgdijaekcfaaDoorKi
import Derived.Test.YtnnkgdijaekcfaaDoorMzc
namespace Go.Proofs.YtnnkgdijaekcfaaDoor
open Go
set_option linter.unusedVariables false
set_option linter.unusedSimpArgs false
set_option maxRecDepth 100000

set_option maxHeartbeats 2000000 in
theorem workerOnce_any {w0 : World} (hg : Gl 2 w0) (cs : List Int) (hcs : cs.length = 7) (s : Bs) (hsd : s.length = 32) (key : Bs) (hkey : key.length = 32) (v : Value) (hs : List Heard) (hr : RdHd [] w0 v hs) (hal : hs.length ≤ 1048576) :
    Calls Tryd.prog 12 #[(.agg ((cs).map I).toArray), (.agg ((s).map B8).toArray), (.agg ((key).map B8).toArray), v] w0 (Ret fun r w' => r = .bool true ∧ HS [] w0 w' []) := by
 have hH := HS.start w0
 refine start (n := 152) (E := [(0, _), (1, _), (2, _), (3, _)]) Tryd.func12 rfl rfl rfl (args_look rfl) ?_
 intro a hA
 refine wp_seq_k fun K1 hK1 => ?_
 refine wp_region_lit ?_
 refine sl hA (lo_boxA hH rfl) rfl ?_
 clear hH; rintro _ w ⟨b_t4, rfl, hH⟩ a hA
 refine sl hA (lo_boxA hH rfl) rfl ?_
 clear hH; rintro _ w ⟨b_t5, rfl, hH⟩ a hA
 refine sl hA (lo_boxA hH rfl) rfl ?_
 clear hH; rintro _ w ⟨b_t6, rfl, hH⟩ a hA
 refine asg hA fun a hA => ?_
 refine wpList_nil ?_
 refine hK1 _ _ ?_
 clear hK1
 replace hA := hA.s5 8 6 5 4 3
 refine wp_seq_k fun K2 hK2 => ?_
 refine wp_seq_k fun K3 hK3 => ?_
 refine wp_region_lit ?_
 refine sq hA (q_loadW hH 2 rfl Tryd.underlying78 rfl ti78 rfl (by first | omega | (simp; done) | (simp; omega) | (rw [List.length_map]; assumption) | assumption | rfl | (simp [*]; done) | (simp [*]; omega))) rfl fun a hA => ?_
 refine sl hA (lo_call fn44 rfl (heavy22_any _ (by assumption))) rfl ?_
 rintro _ w ⟨rfl, hC⟩ a hA
 replace hH := HS.call0 hH hC
 clear hC
 refine hA.spl (fun hs23 hA => ?_) (fun hs23 hA => ?_)
 ·skip
  refine mv hA fun a hA => ?_
  refine gs hA rfl rfl rfl rfl fun a hA => ?_
  refine gs hA rfl rfl rfl rfl fun a hA => ?_
  refine sq hA (q_pick_t rfl rfl) rfl fun a hA => ?_
  refine mv hA fun a hA => ?_
  refine gs hA rfl rfl rfl rfl fun a hA => ?_
  refine gs hA rfl rfl rfl rfl fun a hA => ?_
  refine gs hA rfl rfl rfl rfl fun a hA => ?_
  refine sq hA (q_pick_t rfl rfl) rfl fun a hA => ?_
  refine wpList_nil ?_
  refine hK3 _ _ ?_
  clear hK3
  replace hA := hA.s6 32 8 6 5 4 3
  refine cond_t hA rfl ?_
  refine wp_seq_k fun K4 hK4 => ?_
  refine wp_region_lit ?_
  refine sl hA (lo_call fn35 rfl (awake22_any (hg.mono0 hH))) rfl ?_
  rintro _ w ⟨rfl, hC⟩ a hA
  replace hH := HS.call0 hH hC
  clear hC
  refine asg hA fun a hA => ?_
  refine wpList_nil ?_
  refine hK4 _ _ ?_
  clear hK4
  replace hA := hA.s5 8 6 5 4 3
  refine wp_ret ?_
  refine then_ret ?_
  refine post_ret hA (res_1 rfl hA rfl) ?_
  replace hH := hH.pick [] (Hs' := []) rfl
  exact ⟨_, rfl, rfl, hH⟩
 ·skip
  refine mv hA fun a hA => ?_
  refine gq hA rfl rfl (q_move rfl) rfl fun a hA => ?_
  refine gl hA rfl rfl (lo_call fn45 rfl (long22_any _ _ (hH.rdHd hr) (by first | omega | (simp; done) | (simp; omega)))) rfl ?_
  rintro _ w ⟨b_t26, rfl, hb_t26, hC⟩ a hA
  replace hH := HS.call0 hH hC
  clear hC
  refine hA.spl (fun hs26 hA => ?_) (fun hs26 hA => ?_)
  ·skip
   refine sq hA (q_pick_f rfl rfl) rfl fun a hA => ?_
   refine mv hA fun a hA => ?_
   refine gs hA rfl rfl rfl rfl fun a hA => ?_
   refine gs hA rfl rfl rfl rfl fun a hA => ?_
   refine gs hA rfl rfl rfl rfl fun a hA => ?_
   refine sq hA (q_pick_t rfl rfl) rfl fun a hA => ?_
   refine wpList_nil ?_
   refine hK3 _ _ ?_
   clear hK3
   replace hA := hA.s6 32 8 6 5 4 3
   refine cond_t hA rfl ?_
   refine wp_seq_k fun K5 hK5 => ?_
   refine wp_region_lit ?_
   refine sl hA (lo_call fn35 rfl (awake22_any (hg.mono0 hH))) rfl ?_
   rintro _ w ⟨rfl, hC⟩ a hA
   replace hH := HS.call0 hH hC
   clear hC
   refine asg hA fun a hA => ?_
   refine wpList_nil ?_
   refine hK5 _ _ ?_
   clear hK5
   replace hA := hA.s5 8 6 5 4 3
   refine wp_ret ?_
   refine then_ret ?_
   refine post_ret hA (res_1 rfl hA rfl) ?_
   replace hH := hH.pick [] (Hs' := []) rfl
   exact ⟨_, rfl, rfl, hH⟩
  ·skip
   have hl12 : hs.length ≤ 12 := hb_t26 (by simpa using hs26)
   refine sq hA (q_pick_f rfl rfl) rfl fun a hA => ?_
   refine mv hA fun a hA => ?_
   refine gq hA rfl rfl (q_loadW hH 2 rfl Tryd.underlying78 rfl ti78 rfl (by first | omega | (simp; done) | (simp; omega) | (rw [List.length_map]; assumption) | assumption | rfl | (simp [*]; done) | (simp [*]; omega))) rfl fun a hA => ?_
   refine gl hA rfl rfl (lo_call fn46 rfl (refright21_any _ (by assumption))) rfl ?_
   rintro _ w ⟨rfl, hC⟩ a hA
   replace hH := HS.call0 hH hC
   clear hC
   refine hA.spl (fun hs30 hA => ?_) (fun hs30 hA => ?_)
   ·skip
    have hC : RightC cs := by assumption
    obtain ⟨⟨c1, c2⟩, ⟨c3, c4⟩, ⟨c5, c6⟩, ⟨c7, c8⟩, ⟨c9, c10⟩, ⟨c11, c12⟩, ⟨c13, c14⟩⟩ := id hC
    obtain ⟨n, hn3⟩ : ∃ n : Nat, cs.getD 3 0 = n := ⟨(cs.getD 3 0).toNat, by omega⟩
    obtain ⟨h, hn2⟩ : ∃ h : Nat, cs.getD 2 0 = h := ⟨(cs.getD 2 0).toNat, by omega⟩
    have hR : R7 (n : Int) (h : Int) := by unfold R7 R5; omega
    have hh6 : h ≤ 6 := by omega
    have h64 := pow_le64 hh6
    have hp0 : 0 < 2 ^ h := Nat.pow_pos (by decide)
    refine gq hA rfl rfl (q_not rfl) rfl fun a hA => ?_
    refine sq hA (q_pick_f rfl rfl) rfl fun a hA => ?_
    refine wpList_nil ?_
    refine hK3 _ _ ?_
    clear hK3
    replace hA := hA.s6 32 8 6 5 4 3
    refine cond_f hA rfl ?_
    refine wp_skip ?_
    refine hK2 _ _ ?_
    clear hK2
    replace hA := hA.s5 8 6 5 4 3
    refine wp_seq_k fun K6 hK6 => ?_
    refine wp_region_lit ?_
    refine sq hA (q_loadW hH 2 rfl Tryd.underlying78 rfl ti78 rfl (by first | omega | (simp; done) | (simp; omega) | (rw [List.length_map]; assumption) | assumption | rfl | (simp [*]; done) | (simp [*]; omega))) rfl fun a hA => ?_
    refine sq hA (q_loadW hH 1 rfl Tryd.underlying24 rfl ti24 rfl (by first | omega | (simp; done) | (simp; omega) | (rw [List.length_map]; assumption) | assumption | rfl | (simp [*]; done) | (simp [*]; omega))) rfl fun a hA => ?_
    refine sq hA (q_loadW hH 0 rfl Tryd.underlying24 rfl ti24 rfl (by first | omega | (simp; done) | (simp; omega) | (rw [List.length_map]; assumption) | assumption | rfl | (simp [*]; done) | (simp [*]; omega))) rfl fun a hA => ?_
    refine sl hA (lo_call fn47 rfl (neww_w (hg.mono0 hH) cs hcs hC s hsd key hkey n h hn3 hn2 hR)) rfl ?_
    rintro _ w ⟨b_w, N_w, rfl, hW_w, hC⟩ a hA
    replace hH := HS.call0 hH hC
    clear hC
    refine mv hA fun a hA => ?_
    refine sq hA (q_extract rfl rfl) rfl fun a hA => ?_
    refine sq hA (q_extract rfl rfl) rfl fun a hA => ?_
    refine asg hA fun a hA => ?_
    refine asg hA fun a hA => ?_
    refine wpList_nil ?_
    refine hK6 _ _ ?_
    clear hK6
    replace hA := hA.s6 10 9 8 6 4 3
    refine wp_seq_k fun K7 hK7 => ?_
    refine wp_region_lit ?_
    refine asg hA fun a hA => ?_
    refine wpList_nil ?_
    refine hK7 _ _ ?_
    clear hK7
    refine wp_seq_k fun K8 hK8 => ?_
    refine wp_seq_k fun K9 hK9 => ?_
    refine wp_region_lit ?_
    refine asg hA fun a hA => ?_
    refine wpList_nil ?_
    refine hK9 _ _ ?_
    clear hK9
    refine wp_block ?_
    replace hH := hH.nilFront
    replace hH := hH.nilFront
    replace hH := hH.pick [5, 3, 2, 1, 0, 4] (Hs' := [_, _, _, _, _, _]) rfl
    replace hH := HS.fold [_, _, _, _, _] [_] hH
    obtain ⟨NR10, hNR10, hH⟩ := hH
    refine wp_loop_ghost (fun gm a w => ∃ i : Nat, ∃ x : Nat, ∃ did : Dids, ∃ N_w : Hl, ∃ had : List Res, ∃ v_h : Value, ∃ N_h : Hl, ∃ N_c : Hl, At 152 [(12, I i), (11, v_h), (10, I 0), (9, (.pointer (some ⟨b_w, 0, none⟩))), (8, (.bool false)), (6, (.pointer (some ⟨b_t6, 0, none⟩))), (4, (.pointer (some ⟨b_t4, 0, none⟩))), (3, v)] a ∧ HS [] w0 w ([[(b_t4, Obj.cells (cs.map I).toArray 78 (0, 0))], [(b_t6, Obj.cells (key.map B8).toArray 24 (0, 0))], N_w, N_h, N_c, NR10]) ∧ (i ≤ hs.length) ∧ (had.length ≤ i) ∧ (DidOK n h did) ∧ (HadOK n h did had) ∧ (ResM had N_c) ∧ (Own 29 5 v_h had.length (had.map cellsR).flatten N_h) ∧ (WkM key s n h b_w x did N_w) ∧ gm = hs.length - i) (hs.length - (0)) ⟨0, 0, [], N_w, [], nilV, [], [], hA.sub ⟨rfl, rfl, rfl, rfl, rfl, rfl, rfl, rfl, trivial⟩, hH, by omega, by exact Nat.le_refl _, by exact DidOK.nil, by exact HadOK.nil, by exact ResM.nil, by exact Own.nil _ _, by exact hW_w, rfl⟩ ?_
    clear hA hH
    rintro gm a w ⟨i, x, did, N_w, had, v_h, N_h, N_c, hA, hH, hi, hhd, hok, hHad, hRM, hO_h, hW_w, rfl⟩
    refine wp_seq_k fun K11 hK11 => ?_
    refine wp_seq_k fun K12 hK12 => ?_
    refine wp_region_lit ?_
    refine mv hA fun a hA => ?_
    refine mv hA fun a hA => ?_
    refine sq hA (q_len Tryd.underlying79 rfl (Rd.shp hr.1)) rfl fun a hA => ?_
    refine sq hA (q_lssI rfl rfl) rfl fun a hA => ?_
    refine wpList_nil ?_
    refine hK12 _ _ ?_
    clear hK12
    refine cond_d hA rfl (fun hc44 => ?_) (fun hc44 => ?_)
    ·skip
     obtain ⟨e, hem, hE39, hE37, hu, hx, hn, hb⟩ := hr.get (i := i) (by omega)
     have he : HdOk [] w0 e := ⟨hu, hx, hn, hb⟩
     refine wp_skip ?_
     refine hK11 _ _ ?_
     clear hK11
     refine wp_seq_k fun K13 hK13 => ?_
     refine wp_block ?_
     refine wp_seq_k fun K14 hK14 => ?_
     refine any_go mixed (fun j => !(Nat.beq j 5)) hH ?_
     clear hH; intro w hH
     have hS := hH
     refine any_l 11 ?_
     refine r0 hA 0 1 rfl hS (fun w hH => (q_loadW hH 1 rfl Tryd.underlying24 rfl ti24 rfl (by first | omega | (simp; done) | (simp; omega) | (rw [List.length_map]; assumption) | assumption | rfl | (simp [*]; done) | (simp [*]; omega)))) fun a hA => ?_
     refine p0 hA 1 3 rfl (fun w => (q_move rfl)) fun a hA => ?_
     refine p0 hA 2 7 rfl (fun w => (q_move rfl)) fun a hA => ?_
     refine p0 hA 3 15 rfl (fun w => (q_idxk (i) Tryd.underlying79 ti90 rfl rfl (by first | omega | rfl) (Rd.shp hr.1) (by first | omega | (simp; done) | (simp; omega) | (rw [List.length_map]; assumption) | assumption | rfl | (simp [*]; done) | (simp [*]; omega)))) fun a hA => ?_
     refine r0 hA 4 31 rfl hS (fun w hH => (q_loadRs Tryd.underlying90 rfl ti90 rfl (hH.rd hr.1) (by omega) _ hE39)) fun a hA => ?_
     refine a1n hA 5 63 rfl (lo_call fn49 rfl (bytesOf_any (hg.mono0 hH) _ (by first | exact hkey | exact hnn | exact hDn | exact hn2 | (first | assumption | (rw [List.length_map]; assumption) | rfl | exact sha_length _ | (simp; done) | (simp [*]; done) | omega)) e (HdOk.mv hH he))) ?_
     rintro _ w ⟨v_t53, N_t53, l_t53, b_t53, rfl, hO_t53, hl_t53, hC⟩
     replace hH := HS.call0 hH hC
     clear hC
     obtain ⟨D0, hD0⟩ : ∃ D, D = decO key l_t53 := ⟨_, rfl⟩
     obtain ⟨R, hRR⟩ : ∃ R, R = hearD s n h x did l_t53 D0 := ⟨_, rfl⟩
     obtain ⟨hk1, hk2, hk3, hk4⟩ := hearD_keeps hR hRR (fun he => by rw [hD0]; exact decO_may (key := key) (l := l_t53) (by rw [← hD0]; exact he)) hok
     intro a hA
     refine p0 hA 6 127 rfl (fun w => (q_move rfl)) fun a hA => ?_
     refine p0 hA 7 255 rfl (fun w => (q_extract rfl rfl)) fun a hA => ?_
     refine p0 hA 8 511 rfl (fun w => (q_extract rfl rfl)) fun a hA => ?_
     refine hA.spl (fun hs55 hA => ?_) (fun hs55 hA => ?_)
     ·skip
      refine p0 hA 9 1023 rfl (fun w => (q_assign rfl)) fun a hA => ?_
      refine p0 hA 10 2047 rfl (fun w => (q_assign rfl)) fun a hA => ?_
      refine a_end (by kernel_rfl) ?_ _
      refine hK14 _ _ ?_
      clear hK14
      refine wp_seq_k fun K15 hK15 => ?_
      refine wp_seq_k fun K16 hK16 => ?_
      refine wp_region_lit ?_
      refine mv hA fun a hA => ?_
      refine sq hA (q_not rfl) rfl fun a hA => ?_
      refine wpList_nil ?_
      refine hK16 _ _ ?_
      clear hK16
      refine cond_f hA rfl ?_
      refine wp_skip ?_
      refine hK15 _ _ ?_
      clear hK15
      refine wp_seq_k fun K17 hK17 => ?_
      refine wp_region_lit ?_
      refine mv hA fun a hA => ?_
      refine sl hA (lo_bs (f := B8) (e := 5) ([]) hH rfl rfl (fun w => by kernel_rfl)) rfl ?_
      clear hH; rintro v_t60 w ⟨N_t60, hO_t60, hH⟩ a hA
      refine mv hA fun a hA => ?_
      refine sl hA (lo_appm hH Tryd.underlying22 Tryd.underlying22 (.inl rfl) ti5 rfl rfl rfl hO_t60 (Rd.src (Own.rd0 hO_t53 hH 1 rfl)) (one_B8 _) (by first | omega | (simp; done) | (simp; omega)) (by first | omega | (simp; done) | (simp; omega))) rfl ?_
      clear hH; rintro v_t62 w ⟨N_t62, hO_t62, hH⟩ a hA
      replace hH := hH.pick [4, 0, 1, 2, 3, 5, 6, 7] (Hs' := [_, _, _, _, _, _, _, _]) rfl
      refine sl hA (lo_call fn48 rfl (hear_r (hg.mono0 hH) key hkey s hsd n h hR b_w x did N_w hW_w (hg.ng NG.nil hH) _ _ (Own.rdM hO_t62 (Ns1 := [_]) hH 0 rfl) (by first | omega | (simp; done) | (simp; omega)) D0 hD0 hRR (HS.handed (Ns1 := [_]) hH))) rfl ?_
      rintro _ w ⟨v_t63, N_t63, N_w, rfl, hO_t63, hl_t63, hW_w, hC⟩ a hA
      replace hH := HS.call (Ns1 := [_]) hH hC
      clear hC
      refine mv hA fun a hA => ?_
      refine sq hA (q_extract rfl rfl) rfl fun a hA => ?_
      refine sq hA (q_extract rfl rfl) rfl fun a hA => ?_
      refine asg hA fun a hA => ?_
      refine asg hA fun a hA => ?_
      refine wpList_nil ?_
      refine hK17 _ _ ?_
      clear hK17
      refine wp_seq_k fun K18 hK18 => ?_
      refine wp_region_lit ?_
      refine mv hA fun a hA => ?_
      refine sl hA (lo_bs (f := B8) (e := 5) ([]) hH rfl rfl (fun w => by kernel_rfl)) rfl ?_
      clear hH; rintro v_t68 w ⟨N_t68, hO_t68, hH⟩ a hA
      refine mv hA fun a hA => ?_
      refine sl hA (lo_appm hH Tryd.underlying22 Tryd.underlying22 (.inl rfl) ti5 rfl rfl rfl hO_t68 (Rd.src (Own.rd0 hO_t53 hH 4 rfl)) (one_B8 _) (by first | omega | (simp; done) | (simp; omega)) (by first | omega | (simp; done) | (simp; omega))) rfl ?_
      clear hH; rintro v_t70 w ⟨N_t70, hO_t70, hH⟩ a hA
      replace hH := hH.pick [1, 0, 2, 3, 4, 5, 6, 7, 8, 9] (Hs' := [_, _, _, _, _, _, _, _, _, _]) rfl
      refine sl hA (lo_call fn48 rfl (hear_r (hg.mono0 hH) key hkey s hsd n h hR b_w R.2.1 R.2.2 N_w hW_w (hg.ng NG.nil hH) _ _ (Own.rdM hO_t70 (Ns1 := [_]) hH 0 rfl) (by first | omega | (simp; done) | (simp; omega)) D0 hD0 hk4.symm (HS.handed (Ns1 := [_]) hH))) rfl ?_
      rintro _ w ⟨v_t71, N_t71, N_w, rfl, hO_t71, hl_t71, hW_w, hC⟩ a hA
      replace hH := HS.call (Ns1 := [_]) hH hC
      clear hC
      refine mv hA fun a hA => ?_
      refine sq hA (q_extract rfl rfl) rfl fun a hA => ?_
      refine sq hA (q_extract rfl rfl) rfl fun a hA => ?_
      refine asg hA fun a hA => ?_
      refine asg hA fun a hA => ?_
      refine wpList_nil ?_
      refine hK18 _ _ ?_
      clear hK18
      refine wp_seq_k fun K19 hK19 => ?_
      refine wp_seq_k fun K20 hK20 => ?_
      refine wp_region_lit ?_
      refine mv hA fun a hA => ?_
      refine mv hA fun a hA => ?_
      refine sq hA (q_neqI rfl rfl) rfl fun a hA => ?_
      replace hA := hA.decF (by exact fun h => h rfl)
      refine mv hA fun a hA => ?_
      refine gq hA rfl rfl (q_move rfl) rfl fun a hA => ?_
      refine gq hA rfl rfl (q_move rfl) rfl fun a hA => ?_
      refine gl hA rfl rfl (lo_call fn16 rfl (same_any _ _ _ _ (Own.rd0 hO_t63 hH 3 rfl) (Own.rd0 hO_t71 hH 1 rfl) (by first | omega | (simp; done) | (simp; omega)) (by first | omega | (simp; done) | (simp; omega)))) rfl ?_
      rintro _ w ⟨rfl, hC⟩ a hA
      replace hH := HS.call0 hH hC
      clear hC
      replace hA := hA.decT (by rfl)
      refine gq hA rfl rfl (q_not rfl) rfl fun a hA => ?_
      refine sq hA (q_pick_f rfl rfl) rfl fun a hA => ?_
      refine wpList_nil ?_
      refine hK20 _ _ ?_
      clear hK20
      refine cond_f hA rfl ?_
      refine wp_skip ?_
      refine hK19 _ _ ?_
      clear hK19
      refine wp_seq_k fun K21 hK21 => ?_
      refine wp_seq_k fun K22 hK22 => ?_
      refine wp_region_lit ?_
      refine mv hA fun a hA => ?_
      refine sq hA (q_neqI (n := 0) rfl rfl) rfl fun a hA => ?_
      refine hA.spl (fun hs84 hA => ?_) (fun hs84 hA => ?_)
      ·skip
       refine wpList_nil ?_
       refine hK22 _ _ ?_
       clear hK22
       refine cond_t hA rfl ?_
       refine wp_exit ?_
       refine then_exit ?_
       refine exit_here ?_
       refine hK13 _ _ ?_
       clear hK13
       refine wp_region_lit ?_
       refine mv hA fun a hA => ?_
       refine sq hA (q_addI (n := 1) rfl rfl (by omega)) rfl fun a hA => ?_
       refine asg hA fun a hA => ?_
       refine wpList_nil ?_
       replace hH := hH.pick [6, 7, 0, 8, 9, 10, 1, 2, 3, 4, 5] (Hs' := [_, _, _, _, _, _, _, _, _, _, _]) rfl
       replace hH := hH.pick [0, 1, 2, 3, 4, 5] (Hs' := [_, _, _, _, _, _]) rfl
       exact ⟨_, by omega, i + 1, R.2.1, R.2.2, N_w, had, v_h, N_h, N_c, hA.sub ⟨rfl, rfl, rfl, rfl, rfl, rfl, rfl, rfl, trivial⟩, hH, by omega, by first | omega | (simp; omega), by first | exact hok | exact hk1, by first | exact hHad | exact hHad2 | exact hHad.more hk2 | exact hHad2.snoc ⟨d, hdm, rfl, hda.symm ▸ hdd⟩, by first | exact hRM | exact hRM.snoc ⟨Nat.le_trans hq1 hl_t63, Nat.le_trans hq2 hl_t63, hq4, hq5, Nat.le_trans hq6 (by decide), Nat.le_trans hq7 (by decide)⟩ hO_at91 hO_bt91 hO_ot91 hO_pt91, by first | exact hO_h | exact hO_t146, by exact hW_w, rfl⟩
      ·skip
       have hEz : R.1.2 = 0 := by omega
       obtain ⟨d, hdm, hda⟩ := hk3 hEz
       obtain ⟨T, V, A, B, hdd⟩ := hk1.2 d hdm
       rw [hda] at hdd
       obtain ⟨hq1, hq2, hq3, hq4, hq5, hq6, hq7⟩ : T.length ≤ R.1.1.length ∧ V.length ≤ R.1.1.length ∧ d.1 < 65 ∧ Dg A ∧ Dg B ∧ A.length ≤ 512 ∧ B.length ≤ 6 := decR_len hdd.symm
       have hHad2 := hHad.more hk2
       refine wpList_nil ?_
       refine hK22 _ _ ?_
       clear hK22
       refine cond_f hA rfl ?_
       refine wp_skip ?_
       refine hK21 _ _ ?_
       clear hK21
       refine wp_seq_k fun K23 hK23 => ?_
       refine wp_region_lit ?_
       refine mv hA fun a hA => ?_
       refine sq hA (q_fld 3 Tryd.underlying78 rfl rfl ti3 rfl) rfl fun a hA => ?_
       refine sq hA (q_loadBm ((0 : Int)) hH 6 rfl Tryd.underlying3 rfl rfl (by first | omega | (simp; done) | (simp; omega) | (rw [List.length_map]; assumption) | assumption | rfl | (simp [*]; done) | (simp [*]; omega))) rfl fun a hA => ?_
       rw [hn3] at hA
       refine sq hA (q_fld 2 Tryd.underlying78 rfl rfl ti3 rfl) rfl fun a hA => ?_
       refine sq hA (q_loadBm ((0 : Int)) hH 6 rfl Tryd.underlying3 rfl rfl (by first | omega | (simp; done) | (simp; omega) | (rw [List.length_map]; assumption) | assumption | rfl | (simp [*]; done) | (simp [*]; omega))) rfl fun a hA => ?_
       rw [hn2] at hA
       refine sl hA (lo_call fn31 rfl (dec20_k _ _ (Own.rd0 hO_t63 hH 3 rfl) (by first | omega | (simp; done) | (simp; omega)) _ _ hdd.symm)) rfl ?_
       rintro _ w ⟨v_at91, v_bt91, v_ot91, v_pt91, N_at91, N_bt91, N_ot91, N_pt91, rfl, hO_at91, hO_bt91, hO_ot91, hO_pt91, hC⟩ a hA
       replace hH := HS.call0 hH hC
       clear hC
       refine mv hA fun a hA => ?_
       refine sq hA (q_extract rfl rfl) rfl fun a hA => ?_
       refine sq hA (q_extract rfl rfl) rfl fun a hA => ?_
       refine sl hA (lo_allocA hH ti29) rfl ?_
       clear hH; rintro _ w ⟨b_t19, rfl, hH⟩ a hA
       refine s0 hA (lo_storeAm hH ti29 rfl rfl (rfl) (rfl) (ones_cons (Own.one hO_at91) (ones_cons (Own.one hO_bt91) (ones_cons rfl (ones_cons (Own.one hO_ot91) (ones_cons (Own.one hO_pt91) ones_nil)))))) ?_
       clear hH; rintro _ w hH
       refine asg hA fun a hA => ?_
       refine wpList_nil ?_
       refine hK23 _ _ ?_
       clear hK23
       refine wp_seq_k fun K24 hK24 => ?_
       refine wp_seq_k fun K25 hK25 => ?_
       refine wp_region_lit ?_
       refine mv hA fun a hA => ?_
       refine sq hA (q_neqI (n := 0) rfl rfl) rfl fun a hA => ?_
       replace hA := hA.decF (by exact fun h => h rfl)
       refine wpList_nil ?_
       refine hK25 _ _ ?_
       clear hK25
       refine cond_f hA rfl ?_
       refine wp_skip ?_
       refine hK24 _ _ ?_
       clear hK24
       refine wp_seq_k fun K26 hK26 => ?_
       refine wp_seq_k fun K27 hK27 => ?_
       refine wp_region_lit ?_
       refine asg hA fun a hA => ?_
       refine wpList_nil ?_
       refine hK27 _ _ ?_
       clear hK27
       refine wp_block ?_
       replace hH := hH.pick [0, 1, 2, 3, 4, 13, 14, 5, 6, 7, 8, 9, 10, 11, 12, 15] (Hs' := [_, _, _, _, _, _, _, _, _, _, _, _, _, _, _, _]) rfl
       replace hH := HS.fold [_, _, _, _, _, _, _] [_, _, _, _, _, _, _, _, _] hH
       obtain ⟨NR28, hNR28, hH⟩ := hH
       refine wp_loop_ghost (fun gm a w => ∃ k : Nat, At 152 [(21, I k), (19, (.pointer (some ⟨b_t19, 0, none⟩))), (89, (.pointer (some ⟨b_t4, 2, none⟩))), (87, (.pointer (some ⟨b_t4, 3, none⟩))), (86, v_t63), (79, v_t71), (78, v_t63), (17, v_t71), (72, v_t71), (70, v_t70), (69, v_t53), (68, v_t68), (67, (.pointer (some ⟨b_w, 0, none⟩))), (15, v_t63), (64, v_t63), (62, v_t62), (61, v_t53), (60, v_t60), (59, (.pointer (some ⟨b_w, 0, none⟩))), (13, v_t53), (54, v_t53), (50, (I i)), (49, v), (42, v), (41, (I i)), (12, (I i)), (11, v_h), (10, (I 0)), (9, (.pointer (some ⟨b_w, 0, none⟩))), (8, (.bool false)), (6, (.pointer (some ⟨b_t6, 0, none⟩))), (4, (.pointer (some ⟨b_t4, 0, none⟩))), (3, v)] a ∧ HS [] w0 w ([[(b_t19, Obj.cells [v_at91, v_bt91, I d.1, v_ot91, v_pt91].toArray 29 (0, 0))], N_at91, N_bt91, N_ot91, N_pt91, N_h, N_c, NR28]) ∧ (k ≤ had.length) ∧ gm = had.length - k) (had.length - (0)) ⟨0, hA.sub ⟨rfl, rfl, rfl, rfl, rfl, rfl, rfl, rfl, rfl, rfl, rfl, rfl, rfl, rfl, rfl, rfl, rfl, rfl, rfl, rfl, rfl, rfl, rfl, rfl, rfl, rfl, rfl, rfl, rfl, rfl, rfl, rfl, rfl, trivial⟩, hH, by omega, rfl⟩ ?_
       clear hA hH
       rintro gm a w ⟨k, hA, hH, hk, rfl⟩
       refine wp_seq_k fun K29 hK29 => ?_
       refine wp_seq_k fun K30 hK30 => ?_
       refine wp_region_lit ?_
       refine mv hA fun a hA => ?_
       refine mv hA fun a hA => ?_
       refine sq hA (q_len Tryd.underlying93 rfl (Own.shp hO_h)) rfl fun a hA => ?_
       refine sq hA (q_lssI rfl rfl) rfl fun a hA => ?_
       refine wpList_nil ?_
       refine hK30 _ _ ?_
       clear hK30
       refine cond_d hA rfl (fun hc99 => ?_) (fun hc99 => ?_)
       ·skip
        obtain ⟨e, hem, hE0, hE1, hE2, hE3, ⟨hz1, hz2, hz3, hz4, hz5, hz6⟩, hQ1, hQ2, hQ3, hQ4⟩ := hRM.get (k := k) (by omega)
        refine wp_skip ?_
        refine hK29 _ _ ?_
        clear hK29
        refine wp_seq_k fun K31 hK31 => ?_
        refine wp_block ?_
        refine wp_seq_k fun K32 hK32 => ?_
        refine any_go mixed (fun _ => true) hH ?_
        clear hH; intro w hH
        have hS := hH
        refine any_l 41 ?_
        refine p0 hA 0 1 rfl (fun w => (q_move rfl)) fun a hA => ?_
        refine p0 hA 1 3 rfl (fun w => (q_move rfl)) fun a hA => ?_
        refine p0 hA 2 7 rfl (fun w => (q_idxk (k) Tryd.underlying93 ti29 rfl rfl (by first | omega | rfl) (Own.shp hO_h) (by first | omega | (simp; done) | (simp; omega) | (rw [List.length_map]; assumption) | assumption | rfl | (simp [*]; done) | (simp [*]; omega)))) fun a hA => ?_
        refine p0 hA 3 15 rfl (fun w => (q_fldE 2 Tryd.underlying29 rfl rfl ti27 rfl)) fun a hA => ?_
        refine p0 hA 4 31 rfl (fun w => (q_fldE 0 Tryd.underlying27 rfl rfl ti3 rfl)) fun a hA => ?_
        refine r0 hA 5 63 rfl hS (fun w hH => (q_loadR Tryd.underlying3 rfl rfl (Own.rd0 hO_h hH 5 rfl) (by omega) hE2)) fun a hA => ?_
        refine p0 hA 6 127 rfl (fun w => (q_fld 2 Tryd.underlying29 rfl rfl ti27 rfl)) fun a hA => ?_
        refine p0 hA 7 255 rfl (fun w => (q_fldo 2 2 Tryd.underlying27 rfl rfl ti3 rfl)) fun a hA => ?_
        refine r0 hA 8 511 rfl hS (fun w hH => (q_loadB hH 0 rfl (List.mem_singleton.2 rfl) Tryd.underlying3 rfl rfl rfl)) fun a hA => ?_
        refine p0 hA 9 1023 rfl (fun w => (q_eqlI rfl rfl)) fun a hA => ?_
        refine hA.spl (fun hs111 hA => ?_) (fun hs111 hA => ?_)
        ·skip
         obtain ⟨q1, q2, q3, q4⟩ := HadOK.same hk1 hHad2 hem hdm (by rw [hda]; exact hdd) (by omega)
         refine p0 hA 10 2047 rfl (fun w => (q_move rfl)) fun a hA => ?_
         refine pg hA 11 4095 rfl rfl rfl (fun w => (q_move rfl)) fun a hA => ?_
         refine pg hA 12 8191 rfl rfl rfl (fun w => (q_move rfl)) fun a hA => ?_
         refine pg hA 13 16383 rfl rfl rfl (fun w => (q_idxk (k) Tryd.underlying93 ti29 rfl rfl (by first | omega | rfl) (Own.shp hO_h) (by first | omega | (simp; done) | (simp; omega) | (rw [List.length_map]; assumption) | assumption | rfl | (simp [*]; done) | (simp [*]; omega)))) fun a hA => ?_
         refine pg hA 14 32767 rfl rfl rfl (fun w => (q_fldE 0 Tryd.underlying29 rfl rfl ti22 rfl)) fun a hA => ?_
         refine rg hA 15 65535 rfl rfl rfl hS (fun w hH => (q_loadR Tryd.underlying22 rfl rfl (Own.rd0 hO_h hH 5 rfl) (by omega) hE0)) fun a hA => ?_
         refine pg hA 16 131071 rfl rfl rfl (fun w => (q_fld 0 Tryd.underlying29 rfl rfl ti22 rfl)) fun a hA => ?_
         refine rg hA 17 262143 rfl rfl rfl hS (fun w hH => (q_loadB hH 0 rfl (List.mem_singleton.2 rfl) Tryd.underlying22 rfl rfl rfl)) fun a hA => ?_
         refine g1 hA 18 524287 rfl rfl rfl (lo_call fn16 rfl (same_any _ _ _ _ (hQ1 [] _ (RO.of hH 6 rfl)) (Own.rd0 hO_at91 hH 1 rfl) (by first | omega | (simp; done) | (simp; omega)) (by first | omega | (simp; done) | (simp; omega)))) ?_
         rintro _ w ⟨rfl, hC⟩
         replace hH := HS.call0 hH hC
         clear hC
         replace hS := hH.pick [0, 1, 2, 3, 4, 5, 6, 7] (Hs' := [_, _, _, _, _, _, _, _]) rfl
         refine ⟨fun _ _ => hS, ?_⟩
         intro a hA
         replace hA := hA.decT (by exact q1)
         refine pg hA 19 1048575 rfl rfl rfl (fun w => (q_move rfl)) fun a hA => ?_
         refine pg hA 20 2097151 rfl rfl rfl (fun w => (q_move rfl)) fun a hA => ?_
         refine pg hA 21 4194303 rfl rfl rfl (fun w => (q_move rfl)) fun a hA => ?_
         refine pg hA 22 8388607 rfl rfl rfl (fun w => (q_idxk (k) Tryd.underlying93 ti29 rfl rfl (by first | omega | rfl) (Own.shp hO_h) (by first | omega | (simp; done) | (simp; omega) | (rw [List.length_map]; assumption) | assumption | rfl | (simp [*]; done) | (simp [*]; omega)))) fun a hA => ?_
         refine pg hA 23 16777215 rfl rfl rfl (fun w => (q_fldE 1 Tryd.underlying29 rfl rfl ti22 rfl)) fun a hA => ?_
         refine rg hA 24 33554431 rfl rfl rfl hS (fun w hH => (q_loadR Tryd.underlying22 rfl rfl (Own.rd0 hO_h hH 5 rfl) (by omega) hE1)) fun a hA => ?_
         refine pg hA 25 67108863 rfl rfl rfl (fun w => (q_fld 1 Tryd.underlying29 rfl rfl ti22 rfl)) fun a hA => ?_
         refine rg hA 26 134217727 rfl rfl rfl hS (fun w hH => (q_loadB hH 0 rfl (List.mem_singleton.2 rfl) Tryd.underlying22 rfl rfl rfl)) fun a hA => ?_
         refine g1 hA 27 268435455 rfl rfl rfl (lo_call fn16 rfl (same_any _ _ _ _ (hQ2 [] _ (RO.of hH 6 rfl)) (Own.rd0 hO_bt91 hH 2 rfl) (by first | omega | (simp; done) | (simp; omega)) (by first | omega | (simp; done) | (simp; omega)))) ?_
         rintro _ w ⟨rfl, hC⟩
         replace hH := HS.call0 hH hC
         clear hC
         replace hS := hH.pick [0, 1, 2, 3, 4, 5, 6, 7] (Hs' := [_, _, _, _, _, _, _, _]) rfl
         refine ⟨fun _ _ => hS, ?_⟩
         intro a hA
         refine pg hA 28 536870911 rfl rfl rfl (fun w => (q_pick_t rfl rfl)) fun a hA => ?_
         replace hA := hA.decT (by exact q2)
         refine pg hA 29 1073741823 rfl rfl rfl (fun w => (q_move rfl)) fun a hA => ?_
         refine pg hA 30 2147483647 rfl rfl rfl (fun w => (q_move rfl)) fun a hA => ?_
         refine pg hA 31 4294967295 rfl rfl rfl (fun w => (q_move rfl)) fun a hA => ?_
         refine pg hA 32 8589934591 rfl rfl rfl (fun w => (q_idxk (k) Tryd.underlying93 ti29 rfl rfl (by first | omega | rfl) (Own.shp hO_h) (by first | omega | (simp; done) | (simp; omega) | (rw [List.length_map]; assumption) | assumption | rfl | (simp [*]; done) | (simp [*]; omega)))) fun a hA => ?_
         refine pg hA 33 17179869183 rfl rfl rfl (fun w => (q_fldE 2 Tryd.underlying29 rfl rfl ti27 rfl)) fun a hA => ?_
         refine rg hA 34 34359738367 rfl rfl rfl hS (fun w hH => (q_loadRs Tryd.underlying27 rfl ti27 rfl (Own.rd0 hO_h hH 5 rfl) (by omega) _ hE3)) fun a hA => ?_
         refine pg hA 35 68719476735 rfl rfl rfl (fun w => (q_fld 2 Tryd.underlying29 rfl rfl ti27 rfl)) fun a hA => ?_
         refine rg hA 36 137438953471 rfl rfl rfl hS (fun w hH => (q_loadBA hH 0 rfl (List.mem_singleton.2 rfl) Tryd.underlying27 rfl ti27 rfl [_, _, _] rfl rfl)) fun a hA => ?_
         refine g1 hA 37 274877906943 rfl rfl rfl (lo_call fn51 rfl (same7_any _ _ _ _ _ (by first | assumption | exact Dg.nil) (by first | assumption | exact Dg.nil) (hQ3 [] _ (RO.of hH 6 rfl)) (hQ4 [] _ (RO.of hH 6 rfl)) (by first | omega | (simp; done) | (simp; omega)) (by first | omega | (simp; done) | (simp; omega)) _ _ _ _ _ (by first | assumption | exact Dg.nil) (by first | assumption | exact Dg.nil) (Own.rd0 hO_ot91 hH 3 rfl) (Own.rd0 hO_pt91 hH 4 rfl) (by first | omega | (simp; done) | (simp; omega)) (by first | omega | (simp; done) | (simp; omega)))) ?_
         rintro _ w ⟨rfl, hC⟩
         replace hH := HS.call0 hH hC
         clear hC
         replace hS := hH.pick [0, 1, 2, 3, 4, 5, 6, 7] (Hs' := [_, _, _, _, _, _, _, _]) rfl
         refine ⟨fun _ _ => hS, ?_⟩
         intro a hA
         replace hA := hA.decT (by exact ⟨by omega, q3, q4⟩)
         refine pg hA 38 549755813887 rfl rfl rfl (fun w => (q_pick_t rfl rfl)) fun a hA => ?_
         refine pg hA 39 1099511627775 rfl rfl rfl (fun w => (q_not rfl)) fun a hA => ?_
         refine p0 hA 40 2199023255551 rfl (fun w => (q_pick_t rfl rfl)) fun a hA => ?_
         refine a_end (by kernel_rfl) ?_ _
         refine hK32 _ _ ?_
         clear hK32
         refine cond_f hA rfl ?_
         refine wp_skip ?_
         refine block_normal ?_
         refine hK31 _ _ ?_
         clear hK31
         refine wp_region_lit ?_
         refine mv hA fun a hA => ?_
         refine sq hA (q_addI (n := 1) rfl rfl (by omega)) rfl fun a hA => ?_
         refine asg hA fun a hA => ?_
         refine wpList_nil ?_
         exact ⟨_, by omega, k + 1, hA.sub ⟨rfl, rfl, rfl, rfl, rfl, rfl, rfl, rfl, rfl, rfl, rfl, rfl, rfl, rfl, rfl, rfl, rfl, rfl, rfl, rfl, rfl, rfl, rfl, rfl, rfl, rfl, rfl, rfl, rfl, rfl, rfl, rfl, rfl, trivial⟩, hH, by omega, rfl⟩
        ·skip
         refine p0 hA 10 2047 rfl (fun w => (q_move rfl)) fun a hA => ?_
         refine ps hA 11 4095 rfl rfl rfl fun a hA => ?_
         refine ps hA 12 8191 rfl rfl rfl fun a hA => ?_
         refine ps hA 13 16383 rfl rfl rfl fun a hA => ?_
         refine ps hA 14 32767 rfl rfl rfl fun a hA => ?_
         refine ps hA 15 65535 rfl rfl rfl fun a hA => ?_
         refine ps hA 16 131071 rfl rfl rfl fun a hA => ?_
         refine ps hA 17 262143 rfl rfl rfl fun a hA => ?_
         refine ps hA 18 524287 rfl rfl rfl fun a hA => ?_
         refine psU hA 19 1048575 rfl rfl rfl fun a hA => ?_
         refine ps0 hA 20 2097151 rfl rfl rfl fun a hA => ?_
         refine ps0 hA 21 4194303 rfl rfl rfl fun a hA => ?_
         refine ps0 hA 22 8388607 rfl rfl rfl fun a hA => ?_
         refine ps0 hA 23 16777215 rfl rfl rfl fun a hA => ?_
         refine ps0 hA 24 33554431 rfl rfl rfl fun a hA => ?_
         refine ps0 hA 25 67108863 rfl rfl rfl fun a hA => ?_
         refine ps0 hA 26 134217727 rfl rfl rfl fun a hA => ?_
         refine ps0 hA 27 268435455 rfl rfl rfl fun a hA => ?_
         refine ps hA 28 536870911 rfl rfl rfl fun a hA => ?_
         refine psU hA 29 1073741823 rfl rfl rfl fun a hA => ?_
         refine ps0 hA 30 2147483647 rfl rfl rfl fun a hA => ?_
         refine ps0 hA 31 4294967295 rfl rfl rfl fun a hA => ?_
         refine ps0 hA 32 8589934591 rfl rfl rfl fun a hA => ?_
         refine ps0 hA 33 17179869183 rfl rfl rfl fun a hA => ?_
         refine ps0 hA 34 34359738367 rfl rfl rfl fun a hA => ?_
         refine ps0 hA 35 68719476735 rfl rfl rfl fun a hA => ?_
         refine ps0 hA 36 137438953471 rfl rfl rfl fun a hA => ?_
         refine ps0 hA 37 274877906943 rfl rfl rfl fun a hA => ?_
         refine ps hA 38 549755813887 rfl rfl rfl fun a hA => ?_
         refine ps hA 39 1099511627775 rfl rfl rfl fun a hA => ?_
         refine p0 hA 40 2199023255551 rfl (fun w => (q_pick_f rfl rfl)) fun a hA => ?_
         refine a_end (by kernel_rfl) ?_ _
         refine hK32 _ _ ?_
         clear hK32
         refine cond_f hA rfl ?_
         refine wp_skip ?_
         refine block_normal ?_
         refine hK31 _ _ ?_
         clear hK31
         refine wp_region_lit ?_
         refine mv hA fun a hA => ?_
         refine sq hA (q_addI (n := 1) rfl rfl (by omega)) rfl fun a hA => ?_
         refine asg hA fun a hA => ?_
         refine wpList_nil ?_
         exact ⟨_, by omega, k + 1, hA.sub ⟨rfl, rfl, rfl, rfl, rfl, rfl, rfl, rfl, rfl, rfl, rfl, rfl, rfl, rfl, rfl, rfl, rfl, rfl, rfl, rfl, rfl, rfl, rfl, rfl, rfl, rfl, rfl, rfl, rfl, rfl, rfl, rfl, rfl, trivial⟩, hH, by omega, rfl⟩
       ·skip
        refine wp_exit ?_
        refine then_exit ?_
        replace hH := HS.unfold [_, _, _, _, _, _, _] hNR28 hH
        refine then_exit ?_
        refine exit_here ?_
        refine hK26 _ _ ?_
        clear hK26
        refine wp_region_lit ?_
        refine mv hA fun a hA => ?_
        refine sq hA (q_loadW hH 0 rfl Tryd.underlying29 rfl ti29 rfl (by first | omega | (simp; done) | (simp; omega) | (rw [List.length_map]; assumption) | assumption | rfl | (simp [*]; done) | (simp [*]; omega))) rfl fun a hA => ?_
        refine sl hA (lo_buildS (cs := cellsR (⟨v_at91, v_bt91, T, V, d.1, v_ot91, v_pt91, A, B⟩ : Res)) hH Tryd.underlying93 ti29 rfl rfl (by decide) (by decide)) rfl ?_
        clear hH; rintro v_t145 w ⟨N_t145, hO_t145, hH⟩ a hA
        replace hH := hH.pick [6, 0, 1, 2, 3, 4, 5, 7, 8, 9, 10, 11, 12, 13, 14, 15, 16] (Hs' := [_, _, _, _, _, _, _, _, _, _, _, _, _, _, _, _, _]) rfl
        refine sl hA (lo_append hH Tryd.underlying93 Tryd.underlying93 (.inl rfl) ti29 rfl rfl rfl hO_h (Rd.src (Own.rd0 hO_t145 hH 1 rfl)) (ones_cons (Own.one hO_at91) (ones_cons (Own.one hO_bt91) (ones_cons rfl (ones_cons (Own.one hO_ot91) (ones_cons (Own.one hO_pt91) ones_nil))))) (by first | omega | (simp; done) | (simp; omega)) (by first | omega | (simp; done) | (simp; omega))) rfl ?_
        clear hH; rintro v_t146 w ⟨N_t146, hO_t146, hH⟩ a hA
        replace hH := hH.pick [5, 6, 0, 1, 2, 3, 4, 7, 8, 9, 10, 11, 12, 13, 14, 15, 16] (Hs' := [_, _, _, _, _, _, _, _, _, _, _, _, _, _, _, _, _]) rfl
        replace hH := hH.join
        replace hH := hH.pick [5, 0, 1, 2, 3, 4, 6, 7, 8, 9, 10, 11, 12, 13, 14, 15] (Hs' := [_, _, _, _, _, _, _, _, _, _, _, _, _, _, _, _]) rfl
        replace hH := hH.join
        replace hH := hH.pick [4, 0, 1, 2, 3, 5, 6, 7, 8, 9, 10, 11, 12, 13, 14] (Hs' := [_, _, _, _, _, _, _, _, _, _, _, _, _, _, _]) rfl
        replace hH := hH.join
        replace hH := hH.pick [4, 0, 1, 2, 3, 5, 6, 7, 8, 9, 10, 11, 12, 13] (Hs' := [_, _, _, _, _, _, _, _, _, _, _, _, _, _]) rfl
        replace hH := hH.join
        replace hO_t146 : Own 29 5 v_t146 (had ++ [(⟨v_at91, v_bt91, T, V, d.1, v_ot91, v_pt91, A, B⟩ : Res)]).length ((had ++ [(⟨v_at91, v_bt91, T, V, d.1, v_ot91, v_pt91, A, B⟩ : Res)]).map cellsR).flatten N_t146 := by have q := hO_t146; simp only [List.length_append, List.length_singleton, List.map_append, List.map_cons, List.map_nil, List.flatten_append, List.flatten_cons, List.flatten_nil, List.append_nil]; exact q
        refine asg hA fun a hA => ?_
        refine wpList_nil ?_
        refine block_normal ?_
        refine hK13 _ _ ?_
        clear hK13
        refine wp_region_lit ?_
        refine mv hA fun a hA => ?_
        refine sq hA (q_addI (n := 1) rfl rfl (by omega)) rfl fun a hA => ?_
        refine asg hA fun a hA => ?_
        refine wpList_nil ?_
        replace hH := hH.pick [10, 11, 4, 1, 0, 12, 2, 3, 5, 6, 7, 8, 9] (Hs' := [_, _, _, _, _, _, _, _, _, _, _, _, _]) rfl
        replace hH := hH.pick [0, 1, 2, 3, 4, 5] (Hs' := [_, _, _, _, _, _]) rfl
        exact ⟨_, by omega, i + 1, R.2.1, R.2.2, N_w, had ++ [(⟨v_at91, v_bt91, T, V, d.1, v_ot91, v_pt91, A, B⟩ : Res)], v_t146, N_t146, N_c ++ (N_at91 ++ (N_bt91 ++ (N_ot91 ++ N_pt91))), hA.sub ⟨rfl, rfl, rfl, rfl, rfl, rfl, rfl, rfl, trivial⟩, hH, by omega, by first | omega | (simp; omega), by first | exact hok | exact hk1, by first | exact hHad | exact hHad2 | exact hHad.more hk2 | exact hHad2.snoc ⟨d, hdm, rfl, hda.symm ▸ hdd⟩, by first | exact hRM | exact hRM.snoc ⟨Nat.le_trans hq1 hl_t63, Nat.le_trans hq2 hl_t63, hq4, hq5, Nat.le_trans hq6 (by decide), Nat.le_trans hq7 (by decide)⟩ hO_at91 hO_bt91 hO_ot91 hO_pt91, by first | exact hO_h | exact hO_t146, by exact hW_w, rfl⟩
     ·skip
      refine p0 hA 9 1023 rfl (fun w => (q_assign rfl)) fun a hA => ?_
      refine p0 hA 10 2047 rfl (fun w => (q_assign rfl)) fun a hA => ?_
      refine a_end (by kernel_rfl) ?_ _
      refine hK14 _ _ ?_
      clear hK14
      refine wp_seq_k fun K33 hK33 => ?_
      refine wp_seq_k fun K34 hK34 => ?_
      refine wp_region_lit ?_
      refine mv hA fun a hA => ?_
      refine sq hA (q_not rfl) rfl fun a hA => ?_
      refine wpList_nil ?_
      refine hK34 _ _ ?_
      clear hK34
      refine cond_t hA rfl ?_
      refine wp_exit ?_
      refine then_exit ?_
      refine exit_here ?_
      refine hK13 _ _ ?_
      clear hK13
      refine wp_region_lit ?_
      refine mv hA fun a hA => ?_
      refine sq hA (q_addI (n := 1) rfl rfl (by omega)) rfl fun a hA => ?_
      refine asg hA fun a hA => ?_
      refine wpList_nil ?_
      replace hH := hH.pick [1, 2, 3, 4, 5, 6, 0] (Hs' := [_, _, _, _, _, _, _]) rfl
      replace hH := hH.pick [0, 1, 2, 3, 4, 5] (Hs' := [_, _, _, _, _, _]) rfl
      exact ⟨_, by omega, i + 1, x, did, N_w, had, v_h, N_h, N_c, hA.sub ⟨rfl, rfl, rfl, rfl, rfl, rfl, rfl, rfl, trivial⟩, hH, by omega, by first | omega | (simp; omega), by first | exact hok | exact hk1, by first | exact hHad | exact hHad2 | exact hHad.more hk2 | exact hHad2.snoc ⟨d, hdm, rfl, hda.symm ▸ hdd⟩, by first | exact hRM | exact hRM.snoc ⟨Nat.le_trans hq1 hl_t63, Nat.le_trans hq2 hl_t63, hq4, hq5, Nat.le_trans hq6 (by decide), Nat.le_trans hq7 (by decide)⟩ hO_at91 hO_bt91 hO_ot91 hO_pt91, by first | exact hO_h | exact hO_t146, by exact hW_w, rfl⟩
    ·skip
     refine wp_exit ?_
     refine then_exit ?_
     replace hH := HS.unfold [_, _, _, _, _] hNR10 hH
     refine then_exit ?_
     refine exit_here ?_
     refine hK8 _ _ ?_
     clear hK8
     replace hA := hA.s2 10 8
     refine wp_seq_k fun K35 hK35 => ?_
     refine wp_region_lit ?_
     refine mv hA fun a hA => ?_
     refine sq hA (q_eqlI (n := 0) rfl rfl) rfl fun a hA => ?_
     replace hA := hA.decT (by first | rfl | omega | assumption | (simp; done) | (simp [*]; done))
     refine mv hA fun a hA => ?_
     refine gl hA rfl rfl (lo_call fn35 rfl (awake22_any (hg.mono0 hH))) rfl ?_
     rintro _ w ⟨rfl, hC⟩ a hA
     replace hH := HS.call0 hH hC
     clear hC
     refine sq hA (q_pick_t rfl rfl) rfl fun a hA => ?_
     refine asg hA fun a hA => ?_
     refine wpList_nil ?_
     refine hK35 _ _ ?_
     clear hK35
     replace hA := hA.s1 8
     refine wp_ret ?_
     refine post_ret hA (res_1 rfl hA rfl) ?_
     replace hH := hH.pick [] (Hs' := []) rfl
     exact ⟨_, rfl, rfl, hH⟩
   ·skip
    refine gq hA rfl rfl (q_not rfl) rfl fun a hA => ?_
    refine sq hA (q_pick_f rfl rfl) rfl fun a hA => ?_
    refine wpList_nil ?_
    refine hK3 _ _ ?_
    clear hK3
    replace hA := hA.s6 32 8 6 5 4 3
    refine cond_t hA rfl ?_
    refine wp_seq_k fun K36 hK36 => ?_
    refine wp_region_lit ?_
    refine sl hA (lo_call fn35 rfl (awake22_any (hg.mono0 hH))) rfl ?_
    rintro _ w ⟨rfl, hC⟩ a hA
    replace hH := HS.call0 hH hC
    clear hC
    refine asg hA fun a hA => ?_
    refine wpList_nil ?_
    refine hK36 _ _ ?_
    clear hK36
    replace hA := hA.s5 8 6 5 4 3
    refine wp_ret ?_
    refine then_ret ?_
    refine post_ret hA (res_1 rfl hA rfl) ?_
    replace hH := hH.pick [] (Hs' := []) rfl
    exact ⟨_, rfl, rfl, hH⟩

end Go.Proofs.YtnnkgdijaekcfaaDoor
