/- Layer 22 (worker): the law WorkerHears. -/
import Derived.Test.YtnnkgdijaekcfaaGreatDoorKo
import Derived.Test.YtnnkgdijaekcfaaGreatDoorKj
import Derived.Test.YtnnkgdijaekcfaaGreatDoorKk
namespace Go.Proofs.YtnnkgdijaekcfaaGreatDoor
open Go
set_option linter.unusedVariables false
set_option linter.unusedSimpArgs false
set_option maxRecDepth 100000

theorem pubw_w {w0 : World} {lv : Nat} (hg : Gl lv w0) (key : Bs) (hkey : key.length = 32) (s : Bs) (hsd : s.length = 32) (n h : Nat) (hn : R7 n h) (b_w x : Nat) (did : Dids) (N : Hl) (hW : WkM key s n h b_w x did N) (hgM : NG lv (doms [N])) (hH : HS (doms [N]) w0 w0 [N]) :
    Calls Tryz.prog 9 #[(.pointer (some ⟨b_w, 0, none⟩))] w0 (Ret fun r w' => r = .agg ((pubK s n h).map B8).toArray ∧ HS (doms [N]) w0 w' [N]) := by
  obtain ⟨b_k, b_s, b_m, v_l, N_l, m, Nd, rfl, hO_l, hM, hx, ha⟩ := hW
  have h6 := hH.sixOff
  have hNG := Gl.ngs (Ns1 := [_, _, _]) hg hgM h6
  have hSd : RdD [b_w, b_k, b_m] w0 (.slice (some ⟨b_s, 0, none⟩) 1 1) [s] := HS.boxDM (Ns1 := [_, _, _]) h6 0 rfl hsd
  have hLv : RdD [b_w, b_k, b_m] w0 v_l (leavesK s n (2 ^ h)) := Own.rdM hO_l (Ns1 := [_, _, _]) h6 1 rfl
  refine (pubw_any hg key hkey s hsd n h hn v_l b_w b_k b_s b_m hNG hSd hLv x hx m (HS.handed (Ns1 := [_, _, _]) h6)).mono fun e w' hr => ?_
  obtain ⟨r, h1, h2, h3⟩ := hr
  have h7 := (HS.call (Ns1 := [_, _, _]) h6 h3).nilFront
  exact ⟨r, h1, h2, (HS.six (h7.pick [1, 2, 3, 4, 5, 6, 0] (Hs' := [_, _, _, _, _, _, _]) rfl)).pick [0] (Hs' := [_]) rfl⟩
theorem HdOk.mv {M : List Nat} {w0 w : World} {Hs : List Hl} {e : Heard} (hH : HS M w0 w Hs) (h : HdOk M w0 e) : HdOk [] w e := ⟨hH.rd h.1, hH.rd h.2.1, h.2.2.1, h.2.2.2⟩
set_option maxHeartbeats 2000000 in
theorem workerHears_any {w0 : World} (hg : Gl 2 w0) (cs : List Int) (hcs : cs.length = 7) (s : Bs) (hsd : s.length = 32) (key : Bs) (hkey : key.length = 32) (v : Value) (hs : List Heard) (hr : RdHd [] w0 v hs) (hal : hs.length ≤ 1048576) :
    Calls Tryz.prog 3 #[(.agg ((cs).map I).toArray), (.agg ((s).map B8).toArray), (.agg ((key).map B8).toArray), v] w0 (Ret fun r w' => r = .bool true ∧ HS [] w0 w' []) := by
 have hH := HS.start w0
 refine start (n := 106) (E := [(0, _), (1, _), (2, _), (3, _)]) Tryz.func3 rfl rfl rfl (args_look rfl) ?_
 intro a hA
 refine wp_seq_k fun K1 hK1 => ?_
 refine wp_region_lit ?_
 refine sl hA (lo_boxA hH rfl) rfl ?_
 clear hH; rintro _ w ⟨b_t4, rfl, hH⟩ a hA
 refine sl hA (lo_boxA hH rfl) rfl ?_
 clear hH; rintro _ w ⟨b_t5, rfl, hH⟩ a hA
 refine sl hA (lo_boxA hH rfl) rfl ?_
 clear hH; rintro _ w ⟨b_t6, rfl, hH⟩ a hA
 refine asg hA fun a hA => ?_
 refine wpList_nil ?_
 refine hK1 _ _ ?_
 clear hK1
 replace hA := hA.s5 8 6 5 4 3
 refine wp_seq_k fun K2 hK2 => ?_
 refine wp_seq_k fun K3 hK3 => ?_
 refine wp_region_lit ?_
 refine sq hA (q_loadW hH 2 rfl Tryz.underlying23 rfl ti23 rfl (by first | omega | (simp; done) | (simp; omega) | (rw [List.length_map]; assumption) | assumption | rfl | (simp [*]; done) | (simp [*]; omega))) rfl fun a hA => ?_
 refine sl hA (lo_call fn4 rfl (heavy22_any _ (by assumption))) rfl ?_
 rintro _ w ⟨rfl, hC⟩ a hA
 replace hH := HS.call0 hH hC
 clear hC
 refine hA.spl (fun hs20 hA => ?_) (fun hs20 hA => ?_)
 ·skip
  refine mv hA fun a hA => ?_
  refine gs hA rfl rfl rfl rfl fun a hA => ?_
  refine gs hA rfl rfl rfl rfl fun a hA => ?_
  refine sq hA (q_pick_t rfl rfl) rfl fun a hA => ?_
  refine wpList_nil ?_
  refine hK3 _ _ ?_
  clear hK3
  replace hA := hA.s6 24 8 6 5 4 3
  refine cond_t hA rfl ?_
  refine wp_seq_k fun K4 hK4 => ?_
  refine wp_region_lit ?_
  refine sl hA (lo_call fn6 rfl (awake22_any (hg.mono0 hH))) rfl ?_
  rintro _ w ⟨rfl, hC⟩ a hA
  replace hH := HS.call0 hH hC
  clear hC
  refine asg hA fun a hA => ?_
  refine wpList_nil ?_
  refine hK4 _ _ ?_
  clear hK4
  replace hA := hA.s5 8 6 5 4 3
  refine wp_ret ?_
  refine then_ret ?_
  refine post_ret hA (res_1 rfl hA rfl) ?_
  replace hH := hH.pick [] (Hs' := []) rfl
  exact ⟨_, rfl, rfl, hH⟩
 ·skip
  refine mv hA fun a hA => ?_
  refine gq hA rfl rfl (q_move rfl) rfl fun a hA => ?_
  refine gl hA rfl rfl (lo_call fn5 rfl (long22_any _ _ (hH.rdHd hr) (by first | omega | (simp; done) | (simp; omega)))) rfl ?_
  rintro _ w ⟨b_t23, rfl, hb_t23, hC⟩ a hA
  replace hH := HS.call0 hH hC
  clear hC
  refine hA.spl (fun hs23 hA => ?_) (fun hs23 hA => ?_)
  ·skip
   refine sq hA (q_pick_f rfl rfl) rfl fun a hA => ?_
   refine wpList_nil ?_
   refine hK3 _ _ ?_
   clear hK3
   replace hA := hA.s6 24 8 6 5 4 3
   refine cond_t hA rfl ?_
   refine wp_seq_k fun K5 hK5 => ?_
   refine wp_region_lit ?_
   refine sl hA (lo_call fn6 rfl (awake22_any (hg.mono0 hH))) rfl ?_
   rintro _ w ⟨rfl, hC⟩ a hA
   replace hH := HS.call0 hH hC
   clear hC
   refine asg hA fun a hA => ?_
   refine wpList_nil ?_
   refine hK5 _ _ ?_
   clear hK5
   replace hA := hA.s5 8 6 5 4 3
   refine wp_ret ?_
   refine then_ret ?_
   refine post_ret hA (res_1 rfl hA rfl) ?_
   replace hH := hH.pick [] (Hs' := []) rfl
   exact ⟨_, rfl, rfl, hH⟩
  ·skip
   have hl12 : hs.length ≤ 12 := hb_t23 (by simpa using hs23)
   refine sq hA (q_pick_f rfl rfl) rfl fun a hA => ?_
   refine wpList_nil ?_
   refine hK3 _ _ ?_
   clear hK3
   replace hA := hA.s6 24 8 6 5 4 3
   refine cond_f hA rfl ?_
   refine wp_skip ?_
   refine hK2 _ _ ?_
   clear hK2
   replace hA := hA.s5 8 6 5 4 3
   refine wp_seq_k fun K6 hK6 => ?_
   refine wp_region_lit ?_
   refine sq hA (q_loadW hH 2 rfl Tryz.underlying23 rfl ti23 rfl (by first | omega | (simp; done) | (simp; omega) | (rw [List.length_map]; assumption) | assumption | rfl | (simp [*]; done) | (simp [*]; omega))) rfl fun a hA => ?_
   refine sq hA (q_loadW hH 1 rfl Tryz.underlying25 rfl ti25 rfl (by first | omega | (simp; done) | (simp; omega) | (rw [List.length_map]; assumption) | assumption | rfl | (simp [*]; done) | (simp [*]; omega))) rfl fun a hA => ?_
   refine sq hA (q_loadW hH 0 rfl Tryz.underlying25 rfl ti25 rfl (by first | omega | (simp; done) | (simp; omega) | (rw [List.length_map]; assumption) | assumption | rfl | (simp [*]; done) | (simp [*]; omega))) rfl fun a hA => ?_
   rcases Classical.em (RightC cs) with hC0 | hC0
   ·skip
    have hC : RightC cs := by assumption
    obtain ⟨⟨c1, c2⟩, ⟨c3, c4⟩, ⟨c5, c6⟩, ⟨c7, c8⟩, ⟨c9, c10⟩, ⟨c11, c12⟩, ⟨c13, c14⟩⟩ := id hC
    obtain ⟨n, hn3⟩ : ∃ n : Nat, cs.getD 3 0 = n := ⟨(cs.getD 3 0).toNat, by omega⟩
    obtain ⟨h, hn2⟩ : ∃ h : Nat, cs.getD 2 0 = h := ⟨(cs.getD 2 0).toNat, by omega⟩
    have hR : R7 (n : Int) (h : Int) := by unfold R7 R5; omega
    have hh6 : h ≤ 6 := by omega
    have h64 := pow_le64 hh6
    have hp0 : 0 < 2 ^ h := Nat.pow_pos (by decide)
    have hPl := pubK_length s n h
    refine sl hA (lo_call fn7 rfl (neww_w (hg.mono0 hH) cs hcs hC s hsd key hkey n h hn3 hn2 hR)) rfl ?_
    rintro _ w ⟨b_w, N_w, rfl, hW_w, hC⟩ a hA
    replace hH := HS.call0 hH hC
    clear hC
    refine mv hA fun a hA => ?_
    refine sq hA (q_extract rfl rfl) rfl fun a hA => ?_
    refine sq hA (q_extract rfl rfl) rfl fun a hA => ?_
    refine asg hA fun a hA => ?_
    refine asg hA fun a hA => ?_
    refine wpList_nil ?_
    refine hK6 _ _ ?_
    clear hK6
    replace hA := hA.s7 10 9 8 6 5 4 3
    refine wp_seq_k fun K7 hK7 => ?_
    refine wp_seq_k fun K8 hK8 => ?_
    refine wp_region_lit ?_
    refine sq hA (q_loadW hH 3 rfl Tryz.underlying23 rfl ti23 rfl (by first | omega | (simp; done) | (simp; omega) | (rw [List.length_map]; assumption) | assumption | rfl | (simp [*]; done) | (simp [*]; omega))) rfl fun a hA => ?_
    refine sl hA (lo_call fn8 rfl (refright21_any _ (by assumption))) rfl ?_
    rintro _ w ⟨rfl, hC⟩ a hA
    replace hH := HS.call0 hH hC
    clear hC
    replace hA := hA.decT hC0
    refine sq hA (q_not rfl) rfl fun a hA => ?_
    refine wpList_nil ?_
    refine hK8 _ _ ?_
    clear hK8
    replace hA := hA.s8 35 10 9 8 6 5 4 3
    refine cond_f hA rfl ?_
    refine wp_skip ?_
    refine hK7 _ _ ?_
    clear hK7
    replace hA := hA.s7 10 9 8 6 5 4 3
    refine wp_seq_k fun K9 hK9 => ?_
    refine wp_region_lit ?_
    refine sq hA (q_loadW hH 2 rfl Tryz.underlying25 rfl ti25 rfl (by first | omega | (simp; done) | (simp; omega) | (rw [List.length_map]; assumption) | assumption | rfl | (simp [*]; done) | (simp [*]; omega))) rfl fun a hA => ?_
    refine sq hA (q_fld 3 Tryz.underlying23 rfl rfl ti3 rfl) rfl fun a hA => ?_
    refine sq hA (q_loadBm ((0 : Int)) hH 3 rfl Tryz.underlying3 rfl rfl (by first | omega | (simp; done) | (simp; omega) | (rw [List.length_map]; assumption) | assumption | rfl | (simp [*]; done) | (simp [*]; omega))) rfl fun a hA => ?_
    rw [hn3] at hA
    refine sq hA (q_fld 2 Tryz.underlying23 rfl rfl ti3 rfl) rfl fun a hA => ?_
    refine sq hA (q_loadBm ((0 : Int)) hH 3 rfl Tryz.underlying3 rfl rfl (by first | omega | (simp; done) | (simp; omega) | (rw [List.length_map]; assumption) | assumption | rfl | (simp [*]; done) | (simp [*]; omega))) rfl fun a hA => ?_
    rw [hn2] at hA
    refine sq hA (Runs.eq (q_buildC (css := [s.map B8, [I n], [I h]]) (z := (List.replicate 32 0#8).map B8 ++ [(I 0), (I 0), (I 0)]) (BT.mk (pl := [(0, 32), (32, 1), (33, 1), (34, 1)]) (it := Tryz.t36) (by kernel_rfl) Tryz.underlying36 (by kernel_rfl) (by kernel_rfl)) rfl ⟨rfl, ⟨_, rfl, by simp [hsd], by decide⟩, rfl, ⟨_, rfl, rfl, by decide⟩, rfl, ⟨_, rfl, rfl, by decide⟩, trivial⟩) (putL_rkey hsd n h)) rfl fun a hA => ?_
    refine sq hA (q_loadW hH 1 rfl Tryz.underlying25 rfl ti25 rfl (by first | omega | (simp; done) | (simp; omega) | (rw [List.length_map]; assumption) | assumption | rfl | (simp [*]; done) | (simp [*]; omega))) rfl fun a hA => ?_
    refine sq hA (Runs.eq (q_buildC (css := [rkeyC s n h 0, key.map B8]) (z := (List.replicate 32 0#8).map B8 ++ [I 0, I 0, I 0] ++ (List.replicate 32 0#8).map B8 ++ [nilV]) (BT.mk (pl := [(0, 35), (35, 32), (67, 1)]) (it := Tryz.t39) (by kernel_rfl) Tryz.underlying39 (by kernel_rfl) (by kernel_rfl)) rfl ⟨rfl, ⟨_, rfl, by rw [rkeyC_length hsd], by decide⟩, rfl, ⟨_, rfl, by simp [hkey], by decide⟩, trivial⟩) (putL_rw hsd hkey n h)) rfl fun a hA => ?_
    refine sl hA (lo_boxA hH rfl) rfl ?_
    clear hH; rintro _ w ⟨b_t53, rfl, hH⟩ a hA
    refine asg hA fun a hA => ?_
    refine wpList_nil ?_
    refine hK9 _ _ ?_
    clear hK9
    replace hA := hA.s6 11 10 9 8 6 3
    refine wp_seq_k fun K10 hK10 => ?_
    refine wp_seq_k fun K11 hK11 => ?_
    refine any_go mixed (fun j => !(Nat.beq j 4 || Nat.beq j 8)) hH ?_
    clear hH; intro w hH
    have hS := hH
    refine any_l 11 ?_
    refine p0 hA 0 1 rfl (fun w => (q_move rfl)) fun a hA => ?_
    refine p0 hA 1 3 rfl (fun w => (q_neqI (n := 0) rfl rfl)) fun a hA => ?_
    replace hA := hA.decF (by exact fun h => h rfl)
    refine p0 hA 2 7 rfl (fun w => (q_move rfl)) fun a hA => ?_
    refine pg hA 3 15 rfl rfl rfl (fun w => (q_move rfl)) fun a hA => ?_
    refine pg hA 5 47 rfl rfl rfl (fun w => (q_move rfl)) fun a hA => ?_
    refine pg hA 6 111 rfl rfl rfl (fun w => (q_nilCheck rfl)) fun a hA => ?_
    refine pg hA 7 239 rfl rfl rfl (fun w => (q_fld 0 Tryz.underlying39 rfl rfl ti36 rfl)) fun a hA => ?_
    replace hH := hH.pick [1, 0, 2, 3, 4] (Hs' := [_, _, _, _, _]) rfl
    refine g1n hA 4 255 rfl rfl rfl (lo_call fn9 rfl (pubw_w (hg.mono0 hH) key hkey s hsd n h hR b_w 0 [] N_w hW_w (hg.ng NG.nil hH) (HS.handed (Ns1 := [_]) hH))) ?_
    rintro _ w ⟨rfl, hC⟩
    replace hH := HS.call (Ns1 := [_]) hH hC
    clear hC
    intro a hA
    replace hH := hH.pick [1, 0, 2, 3, 4] (Hs' := [_, _, _, _, _]) rfl
    refine g1n hA 8 511 rfl rfl rfl (lo_call fn10 rfl (refpubX (hg.mono0 hH) b_t53 (hg.ng NG.nil hH) s hsd n h hR (wR key nilV) 39 0 (HS.handed (Ns1 := [_]) hH))) ?_
    rintro _ w ⟨rfl, hC⟩
    replace hH := HS.call (Ns1 := [_]) hH hC
    clear hC
    intro a hA
    refine pg hA 9 1023 rfl rfl rfl (fun w => (q_neqA8 eqa25 rfl rfl rfl rfl (by first | assumption | (rw [List.length_map]; assumption) | rfl | exact sha_length _ | (simp; done) | (simp [*]; done) | omega) (by first | assumption | (rw [List.length_map]; assumption) | rfl | exact sha_length _ | (simp; done) | (simp [*]; done) | omega))) fun a hA => ?_
    replace hA := hA.decF (by exact fun h => h rfl)
    refine p0 hA 10 2047 rfl (fun w => (q_pick_f rfl rfl)) fun a hA => ?_
    refine a_end (by kernel_rfl) ?_ _
    refine hK11 _ _ ?_
    clear hK11
    replace hA := hA.s6 64 11 9 8 6 3
    refine cond_f hA rfl ?_
    refine wp_skip ?_
    refine hK10 _ _ ?_
    clear hK10
    replace hA := hA.s5 11 9 8 6 3
    refine wp_seq_k fun K12 hK12 => ?_
    refine wp_seq_k fun K13 hK13 => ?_
    refine wp_region_lit ?_
    refine asg hA fun a hA => ?_
    refine wpList_nil ?_
    refine hK13 _ _ ?_
    clear hK13
    refine wp_block ?_
    replace hH := hH.pick [2, 1, 0, 3, 4] (Hs' := [_, _, _, _, _]) rfl
    replace hH := HS.fold [_, _, _] [_, _] hH
    obtain ⟨NR14, hNR14, hH⟩ := hH
    refine wp_loop_ghost (fun gm a w => ∃ i : Nat, ∃ x : Nat, ∃ did : Dids, ∃ N_w : Hl, ∃ N_m : Hl, At 106 [(12, I i), (11, (.pointer (some ⟨b_t53, 0, none⟩))), (9, (.pointer (some ⟨b_w, 0, none⟩))), (8, (.bool false)), (6, (.pointer (some ⟨b_t6, 0, none⟩))), (3, v)] a ∧ HS [] w0 w ([[(b_t6, Obj.cells (key.map B8).toArray 25 (0, 0))], N_w, N_m, NR14]) ∧ (i ≤ hs.length) ∧ (WkM key s n h b_w x did N_w) ∧ (RwM key s n h b_t53 x did N_m) ∧ gm = hs.length - i) (hs.length - (0)) ⟨0, 0, [], N_w, [(b_t53, Obj.cells (rkX s n h ((0 : Nat) : Int) (wR key nilV)).toArray 39 (0, 0))], hA.sub ⟨rfl, rfl, rfl, rfl, rfl, rfl, trivial⟩, hH, by omega, by exact hW_w, by exact ⟨nilV, [], [], [], rfl, rfl, Own.nil _ _, DrM.nil, (fun _ h => by cases h), Nat.zero_le _, Nat.zero_le _⟩, rfl⟩ ?_
    clear hA hH
    rintro gm a w ⟨i, x, did, N_w, N_m, hA, hH, hi, hW_w, hW_m, rfl⟩
    refine wp_seq_k fun K15 hK15 => ?_
    refine wp_seq_k fun K16 hK16 => ?_
    refine wp_region_lit ?_
    refine mv hA fun a hA => ?_
    refine mv hA fun a hA => ?_
    refine sq hA (q_len Tryz.underlying26 rfl (Rd.shp hr.1)) rfl fun a hA => ?_
    refine sq hA (q_lssI rfl rfl) rfl fun a hA => ?_
    refine wpList_nil ?_
    refine hK16 _ _ ?_
    clear hK16
    refine cond_d hA rfl (fun hc68 => ?_) (fun hc68 => ?_)
    ·skip
     obtain ⟨e, hem, hE39, hE37, hu, hx, hn, hb⟩ := hr.get (i := i) (by omega)
     have he : HdOk [] w0 e := ⟨hu, hx, hn, hb⟩
     refine wp_skip ?_
     refine hK15 _ _ ?_
     clear hK15
     refine wp_seq_k fun K17 hK17 => ?_
     refine wp_block ?_
     refine wp_seq_k fun K18 hK18 => ?_
     refine any_go mixed (fun j => !(Nat.beq j 5)) hH ?_
     clear hH; intro w hH
     have hS := hH
     refine any_l 11 ?_
     refine r0 hA 0 1 rfl hS (fun w hH => (q_loadW hH 0 rfl Tryz.underlying25 rfl ti25 rfl (by first | omega | (simp; done) | (simp; omega) | (rw [List.length_map]; assumption) | assumption | rfl | (simp [*]; done) | (simp [*]; omega)))) fun a hA => ?_
     refine p0 hA 1 3 rfl (fun w => (q_move rfl)) fun a hA => ?_
     refine p0 hA 2 7 rfl (fun w => (q_move rfl)) fun a hA => ?_
     refine p0 hA 3 15 rfl (fun w => (q_idxk (i) Tryz.underlying26 ti47 rfl rfl (by first | omega | rfl) (Rd.shp hr.1) (by first | omega | (simp; done) | (simp; omega) | (rw [List.length_map]; assumption) | assumption | rfl | (simp [*]; done) | (simp [*]; omega)))) fun a hA => ?_
     refine r0 hA 4 31 rfl hS (fun w hH => (q_loadRs Tryz.underlying47 rfl ti47 rfl (hH.rd hr.1) (by omega) _ hE39)) fun a hA => ?_
     refine a1n hA 5 63 rfl (lo_call fn11 rfl (bytesOf_any (hg.mono0 hH) _ (by first | exact hkey | exact hnn | exact hDn | exact hn2 | (first | assumption | (rw [List.length_map]; assumption) | rfl | exact sha_length _ | (simp; done) | (simp [*]; done) | omega)) e (HdOk.mv hH he))) ?_
     rintro _ w ⟨v_t77, N_t77, l_t77, b_t77, rfl, hO_t77, hl_t77, hC⟩
     replace hH := HS.call0 hH hC
     clear hC
     obtain ⟨D0, hD0⟩ : ∃ D, D = decO key l_t77 := ⟨_, rfl⟩
     obtain ⟨R, hRR⟩ : ∃ R, R = hearD s n h x did l_t77 D0 := ⟨_, rfl⟩
     intro a hA
     refine p0 hA 6 127 rfl (fun w => (q_move rfl)) fun a hA => ?_
     refine p0 hA 7 255 rfl (fun w => (q_extract rfl rfl)) fun a hA => ?_
     refine p0 hA 8 511 rfl (fun w => (q_extract rfl rfl)) fun a hA => ?_
     refine hA.spl (fun hs79 hA => ?_) (fun hs79 hA => ?_)
     ·skip
      refine p0 hA 9 1023 rfl (fun w => (q_assign rfl)) fun a hA => ?_
      refine p0 hA 10 2047 rfl (fun w => (q_assign rfl)) fun a hA => ?_
      refine a_end (by kernel_rfl) ?_ _
      refine hK18 _ _ ?_
      clear hK18
      refine wp_seq_k fun K19 hK19 => ?_
      refine wp_seq_k fun K20 hK20 => ?_
      refine wp_region_lit ?_
      refine mv hA fun a hA => ?_
      refine sq hA (q_not rfl) rfl fun a hA => ?_
      refine wpList_nil ?_
      refine hK20 _ _ ?_
      clear hK20
      refine cond_f hA rfl ?_
      refine wp_skip ?_
      refine hK19 _ _ ?_
      clear hK19
      refine wp_seq_k fun K21 hK21 => ?_
      refine wp_region_lit ?_
      refine mv hA fun a hA => ?_
      refine sl hA (lo_bs (f := B8) (e := 5) ([]) hH rfl rfl (fun w => by kernel_rfl)) rfl ?_
      clear hH; rintro v_t84 w ⟨N_t84, hO_t84, hH⟩ a hA
      refine mv hA fun a hA => ?_
      refine sl hA (lo_appm hH Tryz.underlying41 Tryz.underlying41 (.inl rfl) ti5 rfl rfl rfl hO_t84 (Rd.src (Own.rd0 hO_t77 hH 1 rfl)) (one_B8 _) (by first | omega | (simp; done) | (simp; omega)) (by first | omega | (simp; done) | (simp; omega))) rfl ?_
      clear hH; rintro v_t86 w ⟨N_t86, hO_t86, hH⟩ a hA
      replace hH := hH.pick [3, 0, 1, 2, 4, 5] (Hs' := [_, _, _, _, _, _]) rfl
      refine sl hA (lo_call fn12 rfl (hear_r (hg.mono0 hH) key hkey s hsd n h hR b_w x did N_w hW_w (hg.ng NG.nil hH) _ _ (Own.rdM hO_t86 (Ns1 := [_]) hH 0 rfl) (by first | omega | (simp; done) | (simp; omega)) D0 hD0 hRR (HS.handed (Ns1 := [_]) hH))) rfl ?_
      rintro _ w ⟨v_t87, N_t87, N_w, rfl, hO_t87, hl_t87, hW_w, hC⟩ a hA
      replace hH := HS.call (Ns1 := [_]) hH hC
      clear hC
      refine mv hA fun a hA => ?_
      refine sq hA (q_extract rfl rfl) rfl fun a hA => ?_
      refine sq hA (q_extract rfl rfl) rfl fun a hA => ?_
      refine asg hA fun a hA => ?_
      refine asg hA fun a hA => ?_
      refine wpList_nil ?_
      refine hK21 _ _ ?_
      clear hK21
      refine wp_seq_k fun K22 hK22 => ?_
      refine wp_region_lit ?_
      refine mv hA fun a hA => ?_
      refine mv hA fun a hA => ?_
      replace hH := hH.pick [5, 0, 1, 2, 3, 4, 6] (Hs' := [_, _, _, _, _, _, _]) rfl
      refine sl hA (lo_call fn13 rfl (refhear_r (hg.mono0 hH) b_t53 x key hkey s hsd n h hR did N_m hW_m (hg.ng NG.nil hH) _ _ (Own.rdM hO_t77 (Ns1 := [_]) hH 3 rfl) (by first | omega | (simp; done) | (simp; omega)) D0 hD0 hRR (HS.handed (Ns1 := [_]) hH))) rfl ?_
      rintro _ w ⟨v_t93, N_m, rfl, hQ_t93, hl2, hW_m, hC⟩ a hA
      replace hH := HS.call (Ns1 := [_]) hH hC
      clear hC
      refine mv hA fun a hA => ?_
      refine sq hA (q_extract rfl rfl) rfl fun a hA => ?_
      refine sq hA (q_extract rfl rfl) rfl fun a hA => ?_
      refine asg hA fun a hA => ?_
      refine asg hA fun a hA => ?_
      refine wpList_nil ?_
      refine hK22 _ _ ?_
      clear hK22
      refine wp_seq_k fun K23 hK23 => ?_
      refine wp_region_lit ?_
      refine mv hA fun a hA => ?_
      refine mv hA fun a hA => ?_
      refine sq hA (q_neqI rfl rfl) rfl fun a hA => ?_
      replace hA := hA.decF (by exact fun h => h rfl)
      refine mv hA fun a hA => ?_
      refine gq hA rfl rfl (q_move rfl) rfl fun a hA => ?_
      refine gq hA rfl rfl (q_move rfl) rfl fun a hA => ?_
      refine gl hA rfl rfl (lo_call fn14 rfl (same_any _ _ _ _ (Own.rd0 hO_t87 hH 2 rfl) (hQ_t93 [] _ (RO.of hH 0 rfl)) (by first | omega | (simp; done) | (simp; omega)) (by first | omega | (simp; done) | (simp; omega)))) rfl ?_
      rintro _ w ⟨rfl, hC⟩ a hA
      replace hH := HS.call0 hH hC
      clear hC
      replace hA := hA.decT (by rfl)
      refine gq hA rfl rfl (q_not rfl) rfl fun a hA => ?_
      refine sq hA (q_pick_f rfl rfl) rfl fun a hA => ?_
      refine wpList_nil ?_
      refine hK23 _ _ ?_
      clear hK23
      refine cond_f hA rfl ?_
      refine wp_skip ?_
      refine block_normal ?_
      refine hK17 _ _ ?_
      clear hK17
      refine wp_region_lit ?_
      refine mv hA fun a hA => ?_
      refine sq hA (q_addI (n := 1) rfl rfl (by omega)) rfl fun a hA => ?_
      refine asg hA fun a hA => ?_
      refine wpList_nil ?_
      replace hH := hH.pick [5, 1, 0, 6, 2, 3, 4] (Hs' := [_, _, _, _, _, _, _]) rfl
      replace hH := hH.pick [0, 1, 2, 3] (Hs' := [_, _, _, _]) rfl
      exact ⟨_, by omega, i + 1, R.2.1, R.2.2, N_w, N_m, hA.sub ⟨rfl, rfl, rfl, rfl, rfl, rfl, trivial⟩, hH, by omega, by exact hW_w, by exact hW_m, rfl⟩
     ·skip
      refine p0 hA 9 1023 rfl (fun w => (q_assign rfl)) fun a hA => ?_
      refine p0 hA 10 2047 rfl (fun w => (q_assign rfl)) fun a hA => ?_
      refine a_end (by kernel_rfl) ?_ _
      refine hK18 _ _ ?_
      clear hK18
      refine wp_seq_k fun K24 hK24 => ?_
      refine wp_seq_k fun K25 hK25 => ?_
      refine wp_region_lit ?_
      refine mv hA fun a hA => ?_
      refine sq hA (q_not rfl) rfl fun a hA => ?_
      refine wpList_nil ?_
      refine hK25 _ _ ?_
      clear hK25
      refine cond_t hA rfl ?_
      refine wp_exit ?_
      refine then_exit ?_
      refine exit_here ?_
      refine hK17 _ _ ?_
      clear hK17
      refine wp_region_lit ?_
      refine mv hA fun a hA => ?_
      refine sq hA (q_addI (n := 1) rfl rfl (by omega)) rfl fun a hA => ?_
      refine asg hA fun a hA => ?_
      refine wpList_nil ?_
      replace hH := hH.pick [1, 2, 3, 4, 0] (Hs' := [_, _, _, _, _]) rfl
      replace hH := hH.pick [0, 1, 2, 3] (Hs' := [_, _, _, _]) rfl
      exact ⟨_, by omega, i + 1, x, did, N_w, N_m, hA.sub ⟨rfl, rfl, rfl, rfl, rfl, rfl, trivial⟩, hH, by omega, by exact hW_w, by exact hW_m, rfl⟩
    ·skip
     refine wp_exit ?_
     refine then_exit ?_
     replace hH := HS.unfold [_, _, _] hNR14 hH
     refine then_exit ?_
     refine exit_here ?_
     refine hK12 _ _ ?_
     clear hK12
     replace hA := hA.s1 8
     refine wp_seq_k fun K26 hK26 => ?_
     refine wp_region_lit ?_
     refine sl hA (lo_call fn6 rfl (awake22_any (hg.mono0 hH))) rfl ?_
     rintro _ w ⟨rfl, hC⟩ a hA
     replace hH := HS.call0 hH hC
     clear hC
     refine asg hA fun a hA => ?_
     refine wpList_nil ?_
     refine hK26 _ _ ?_
     clear hK26
     replace hA := hA.s1 8
     refine wp_ret ?_
     refine post_ret hA (res_1 rfl hA rfl) ?_
     replace hH := hH.pick [] (Hs' := []) rfl
     exact ⟨_, rfl, rfl, hH⟩
   ·skip
    refine sl hA (lo_call fn7 rfl (neww_bad cs hcs hC0 s hsd key hkey)) rfl ?_
    rintro _ w ⟨rfl, hC⟩ a hA
    replace hH := HS.call0 hH hC
    clear hC
    refine mv hA fun a hA => ?_
    refine sq hA (q_extract rfl rfl) rfl fun a hA => ?_
    refine sq hA (q_extract rfl rfl) rfl fun a hA => ?_
    refine asg hA fun a hA => ?_
    refine asg hA fun a hA => ?_
    refine wpList_nil ?_
    refine hK6 _ _ ?_
    clear hK6
    replace hA := hA.s7 10 9 8 6 5 4 3
    refine wp_seq_k fun K27 hK27 => ?_
    refine wp_seq_k fun K28 hK28 => ?_
    refine wp_region_lit ?_
    refine sq hA (q_loadW hH 2 rfl Tryz.underlying23 rfl ti23 rfl (by first | omega | (simp; done) | (simp; omega) | (rw [List.length_map]; assumption) | assumption | rfl | (simp [*]; done) | (simp [*]; omega))) rfl fun a hA => ?_
    refine sl hA (lo_call fn8 rfl (refright21_any _ (by assumption))) rfl ?_
    rintro _ w ⟨rfl, hC⟩ a hA
    replace hH := HS.call0 hH hC
    clear hC
    replace hA := hA.decF hC0
    refine sq hA (q_not rfl) rfl fun a hA => ?_
    refine wpList_nil ?_
    refine hK28 _ _ ?_
    clear hK28
    replace hA := hA.s8 35 10 9 8 6 5 4 3
    refine cond_t hA rfl ?_
    refine wp_seq_k fun K29 hK29 => ?_
    refine wp_region_lit ?_
    refine mv hA fun a hA => ?_
    refine sq hA (q_nilNil Tryz.underlying30 rfl rfl) rfl fun a hA => ?_
    refine mv hA fun a hA => ?_
    refine gq hA rfl rfl (q_move rfl) rfl fun a hA => ?_
    refine gq hA rfl rfl (q_eqlI (n := 1) rfl rfl) rfl fun a hA => ?_
    refine sq hA (q_pick_t rfl rfl) rfl fun a hA => ?_
    replace hA := hA.decT (by first | rfl | omega | assumption | (simp; done) | (simp [*]; done))
    refine mv hA fun a hA => ?_
    refine gl hA rfl rfl (lo_call fn6 rfl (awake22_any (hg.mono0 hH))) rfl ?_
    rintro _ w ⟨rfl, hC⟩ a hA
    replace hH := HS.call0 hH hC
    clear hC
    refine sq hA (q_pick_t rfl rfl) rfl fun a hA => ?_
    refine asg hA fun a hA => ?_
    refine wpList_nil ?_
    refine hK29 _ _ ?_
    clear hK29
    replace hA := hA.s7 8 10 9 6 5 4 3
    refine wp_ret ?_
    refine then_ret ?_
    refine post_ret hA (res_1 rfl hA rfl) ?_
    replace hH := hH.pick [] (Hs' := []) rfl
    exact ⟨_, rfl, rfl, hH⟩

end Go.Proofs.YtnnkgdijaekcfaaGreatDoor
