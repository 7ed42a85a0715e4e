/- Layer 22 (worker): configs; a worker is made. -/
import Derived.Test.YtnnkgdijaekcfaaGreatDoorKb
import Derived.Test.YtnnkgdijaekcfaaGreatDoorHe
namespace Go.Proofs.YtnnkgdijaekcfaaGreatDoor
open Go
set_option linter.unusedVariables false
set_option linter.unusedSimpArgs false
set_option maxRecDepth 100000

theorem between_any {w0 : World} (n lo hi : Int) :
    Calls Tryz.prog 46 #[I n, I lo, I hi] w0 (Ret fun r w' => r = .bool (decide (lo ≤ n ∧ n ≤ hi)) ∧ HS [] w0 w' []) := by
 have hH := HS.start w0
 refine start (n := 15) (E := [(0, _), (1, _), (2, _)]) Tryz.func46 rfl rfl rfl (args_look rfl) ?_
 intro a hA
 refine wp_seq_k fun K1 hK1 => ?_
 refine wp_region_lit ?_
 refine asg hA fun a hA => ?_
 refine wpList_nil ?_
 refine hK1 _ _ ?_
 clear hK1
 refine wp_seq_k fun K2 hK2 => ?_
 refine wp_region_lit ?_
 refine mv hA fun a hA => ?_
 refine mv hA fun a hA => ?_
 refine sq hA (q_geqI rfl rfl) rfl fun a hA => ?_
 refine hA.spl (fun hs9 hA => ?_) (fun hs9 hA => ?_)
 ·skip
  refine mv hA fun a hA => ?_
  refine gq hA rfl rfl (q_move rfl) rfl fun a hA => ?_
  refine gq hA rfl rfl (q_move rfl) rfl fun a hA => ?_
  refine gq hA rfl rfl (q_leqI rfl rfl) rfl fun a hA => ?_
  refine sq hA (q_pick_t rfl rfl) rfl fun a hA => ?_
  refine asg hA fun a hA => ?_
  refine wpList_nil ?_
  refine hK2 _ _ ?_
  clear hK2
  replace hA := hA.s1 6
  refine wp_ret ?_
  refine post_ret hA (res_1 rfl hA rfl) ?_
  exact ⟨_, rfl, by congr 1; symm; first | exact decide_eq_false (by omega) | exact decide_eq_true (by omega) | exact decide_eq_decide.2 (by omega), hH⟩
 ·skip
  refine mv hA fun a hA => ?_
  refine gs hA rfl rfl rfl rfl fun a hA => ?_
  refine gs hA rfl rfl rfl rfl fun a hA => ?_
  refine gs hA rfl rfl rfl rfl fun a hA => ?_
  refine sq hA (q_pick_f rfl rfl) rfl fun a hA => ?_
  refine asg hA fun a hA => ?_
  refine wpList_nil ?_
  refine hK2 _ _ ?_
  clear hK2
  replace hA := hA.s1 6
  refine wp_ret ?_
  refine post_ret hA (res_1 rfl hA rfl) ?_
  exact ⟨_, rfl, by congr 1; symm; first | exact decide_eq_false (by omega) | exact decide_eq_true (by omega) | exact decide_eq_decide.2 (by omega), hH⟩

set_option maxHeartbeats 1000000 in
theorem check_any {w0 : World} (cs : List Int) (hcs : cs.length = 7) (hC : RightC cs) :
    Calls Tryz.prog 19 #[(.agg ((cs).map I).toArray)] w0 (Ret fun r w' => r = I 0 ∧ HS [] w0 w' []) := by
 have hH := HS.start w0
 refine start (n := 43) (E := [(0, _)]) Tryz.func19 rfl rfl rfl (args_look rfl) ?_
 intro a hA
 obtain ⟨⟨c1, c2⟩, ⟨c3, c4⟩, ⟨c5, c6⟩, ⟨c7, c8⟩, ⟨c9, c10⟩, ⟨c11, c12⟩, ⟨c13, c14⟩⟩ := hC
 refine wp_seq_k fun K1 hK1 => ?_
 refine wp_region_lit ?_
 refine sl hA (lo_boxA hH rfl) rfl ?_
 clear hH; rintro _ w ⟨b_t1, rfl, hH⟩ a hA
 refine asg hA fun a hA => ?_
 refine wpList_nil ?_
 refine hK1 _ _ ?_
 clear hK1
 replace hA := hA.s2 2 1
 refine wp_seq_k fun K2 hK2 => ?_
 refine wp_seq_k fun K3 hK3 => ?_
 refine wp_region_lit ?_
 refine sq hA (q_fld 0 Tryz.underlying23 rfl rfl ti3 rfl) rfl fun a hA => ?_
 refine sq hA (q_loadBm ((0 : Int)) hH 0 rfl Tryz.underlying3 rfl rfl (by first | omega | (simp; done) | (simp; omega) | (rw [List.length_map]; assumption) | assumption | rfl | (simp [*]; done) | (simp [*]; omega))) rfl fun a hA => ?_
 refine sq hA (q_buildV (vs := [I (cs.getD 0 0), I (0), I (2)]) (zs := [(I 0), (I 0), (I 0)]) (it := Tryz.t95) (ie := Tryz.t3) (by kernel_rfl) Tryz.underlying95 (by kernel_rfl) (by kernel_rfl) rfl rfl rfl (ones_cons rfl (ones_cons rfl (ones_cons rfl ones_nil)))) rfl fun a hA => ?_
 refine sq hA (q_fld 1 Tryz.underlying23 rfl rfl ti3 rfl) rfl fun a hA => ?_
 refine sq hA (q_loadBm ((0 : Int)) hH 0 rfl Tryz.underlying3 rfl rfl (by first | omega | (simp; done) | (simp; omega) | (rw [List.length_map]; assumption) | assumption | rfl | (simp [*]; done) | (simp [*]; omega))) rfl fun a hA => ?_
 refine sq hA (q_fld 0 Tryz.underlying23 rfl rfl ti3 rfl) rfl fun a hA => ?_
 refine sq hA (q_loadBm ((0 : Int)) hH 0 rfl Tryz.underlying3 rfl rfl (by first | omega | (simp; done) | (simp; omega) | (rw [List.length_map]; assumption) | assumption | rfl | (simp [*]; done) | (simp [*]; omega))) rfl fun a hA => ?_
 refine sq hA (q_mulI (m := 2) rfl rfl (by omega)) rfl fun a hA => ?_
 refine sq hA (q_addI (n := 1) rfl rfl (by omega)) rfl fun a hA => ?_
 refine sq hA (q_buildV (vs := [I (cs.getD 1 0), I (2 * cs.getD 0 0 + 1), I (8)]) (zs := [(I 0), (I 0), (I 0)]) (it := Tryz.t95) (ie := Tryz.t3) (by kernel_rfl) Tryz.underlying95 (by kernel_rfl) (by kernel_rfl) rfl rfl rfl (ones_cons rfl (ones_cons rfl (ones_cons rfl ones_nil)))) rfl fun a hA => ?_
 refine sq hA (q_fld 2 Tryz.underlying23 rfl rfl ti3 rfl) rfl fun a hA => ?_
 refine sq hA (q_loadBm ((0 : Int)) hH 0 rfl Tryz.underlying3 rfl rfl (by first | omega | (simp; done) | (simp; omega) | (rw [List.length_map]; assumption) | assumption | rfl | (simp [*]; done) | (simp [*]; omega))) rfl fun a hA => ?_
 refine sq hA (q_buildV (vs := [I (cs.getD 2 0), I (0), I (6)]) (zs := [(I 0), (I 0), (I 0)]) (it := Tryz.t95) (ie := Tryz.t3) (by kernel_rfl) Tryz.underlying95 (by kernel_rfl) (by kernel_rfl) rfl rfl rfl (ones_cons rfl (ones_cons rfl (ones_cons rfl ones_nil)))) rfl fun a hA => ?_
 refine sq hA (q_fld 6 Tryz.underlying23 rfl rfl ti3 rfl) rfl fun a hA => ?_
 refine sq hA (q_loadBm ((0 : Int)) hH 0 rfl Tryz.underlying3 rfl rfl (by first | omega | (simp; done) | (simp; omega) | (rw [List.length_map]; assumption) | assumption | rfl | (simp [*]; done) | (simp [*]; omega))) rfl fun a hA => ?_
 refine sq hA (q_buildV (vs := [I (cs.getD 6 0), I (0), I (6)]) (zs := [(I 0), (I 0), (I 0)]) (it := Tryz.t95) (ie := Tryz.t3) (by kernel_rfl) Tryz.underlying95 (by kernel_rfl) (by kernel_rfl) rfl rfl rfl (ones_cons rfl (ones_cons rfl (ones_cons rfl ones_nil)))) rfl fun a hA => ?_
 refine sq hA (q_fld 3 Tryz.underlying23 rfl rfl ti3 rfl) rfl fun a hA => ?_
 refine sq hA (q_loadBm ((0 : Int)) hH 0 rfl Tryz.underlying3 rfl rfl (by first | omega | (simp; done) | (simp; omega) | (rw [List.length_map]; assumption) | assumption | rfl | (simp [*]; done) | (simp [*]; omega))) rfl fun a hA => ?_
 refine sq hA (q_buildV (vs := [I (cs.getD 3 0), I (1), I (256)]) (zs := [(I 0), (I 0), (I 0)]) (it := Tryz.t95) (ie := Tryz.t3) (by kernel_rfl) Tryz.underlying95 (by kernel_rfl) (by kernel_rfl) rfl rfl rfl (ones_cons rfl (ones_cons rfl (ones_cons rfl ones_nil)))) rfl fun a hA => ?_
 refine sq hA (q_fld 4 Tryz.underlying23 rfl rfl ti3 rfl) rfl fun a hA => ?_
 refine sq hA (q_loadBm ((0 : Int)) hH 0 rfl Tryz.underlying3 rfl rfl (by first | omega | (simp; done) | (simp; omega) | (rw [List.length_map]; assumption) | assumption | rfl | (simp [*]; done) | (simp [*]; omega))) rfl fun a hA => ?_
 refine sq hA (q_buildV (vs := [I (cs.getD 4 0), I (1), I (64)]) (zs := [(I 0), (I 0), (I 0)]) (it := Tryz.t95) (ie := Tryz.t3) (by kernel_rfl) Tryz.underlying95 (by kernel_rfl) (by kernel_rfl) rfl rfl rfl (ones_cons rfl (ones_cons rfl (ones_cons rfl ones_nil)))) rfl fun a hA => ?_
 refine sq hA (q_fld 5 Tryz.underlying23 rfl rfl ti3 rfl) rfl fun a hA => ?_
 refine sq hA (q_loadBm ((0 : Int)) hH 0 rfl Tryz.underlying3 rfl rfl (by first | omega | (simp; done) | (simp; omega) | (rw [List.length_map]; assumption) | assumption | rfl | (simp [*]; done) | (simp [*]; omega))) rfl fun a hA => ?_
 refine sq hA (q_buildV (vs := [I (cs.getD 5 0), I (1), I (10000)]) (zs := [(I 0), (I 0), (I 0)]) (it := Tryz.t95) (ie := Tryz.t3) (by kernel_rfl) Tryz.underlying95 (by kernel_rfl) (by kernel_rfl) rfl rfl rfl (ones_cons rfl (ones_cons rfl (ones_cons rfl ones_nil)))) rfl fun a hA => ?_
 refine sq hA (q_build (v := .agg (#[I (cs.getD 0 0), I (0), I (2), I (cs.getD 1 0), I (2 * cs.getD 0 0 + 1), I (8), I (cs.getD 2 0), I (0), I (6), I (cs.getD 6 0), I (0), I (6), I (cs.getD 3 0), I (1), I (256), I (cs.getD 4 0), I (1), I (64), I (cs.getD 5 0), I (1), I (10000)] : Array Value)) (vs := [(0, .agg #[I (cs.getD 0 0), I (0), I (2)]), (1, .agg #[I (cs.getD 1 0), I (2 * cs.getD 0 0 + 1), I (8)]), (2, .agg #[I (cs.getD 2 0), I (0), I (6)]), (3, .agg #[I (cs.getD 6 0), I (0), I (6)]), (4, .agg #[I (cs.getD 3 0), I (1), I (256)]), (5, .agg #[I (cs.getD 4 0), I (1), I (64)]), (6, .agg #[I (cs.getD 5 0), I (1), I (10000)])]) rfl (fun w => run_build w _ _ _ (by kernel_rfl))) rfl fun a hA => ?_
 refine mv hA fun a hA => ?_
 refine wpList_nil ?_
 refine hK3 _ _ ?_
 clear hK3
 replace hA := hA.s3 31 30 2
 refine wp_block ?_
 replace hH := HS.fold [] [_] hH
 obtain ⟨NR4, hNR4, hH⟩ := hH
 refine wp_loop_ghost (fun gm a w => ∃ q : Nat, At 43 [(31, I q), (30, (.agg (#[I (cs.getD 0 0), I (0), I (2), I (cs.getD 1 0), I (2 * cs.getD 0 0 + 1), I (8), I (cs.getD 2 0), I (0), I (6), I (cs.getD 6 0), I (0), I (6), I (cs.getD 3 0), I (1), I (256), I (cs.getD 4 0), I (1), I (64), I (cs.getD 5 0), I (1), I (10000)] : Array Value))), (2, (I 0))] a ∧ HS [] w0 w ([NR4]) ∧ (q ≤ 7) ∧ gm = 7 - q) (7 - (0)) ⟨0, hA.sub ⟨rfl, rfl, rfl, trivial⟩, hH, by omega, rfl⟩ ?_
 clear hA hH
 rintro gm a w ⟨q, hA, hH, hq, rfl⟩
 refine wp_seq_k fun K5 hK5 => ?_
 refine wp_region_lit ?_
 refine sq hA (q_lssI (n := 7) rfl rfl) rfl fun a hA => ?_
 rcases (show q = 0 ∨ q = 1 ∨ q = 2 ∨ q = 3 ∨ q = 4 ∨ q = 5 ∨ q = 6 ∨ q = 7 by omega) with rfl | rfl | rfl | rfl | rfl | rfl | rfl | rfl
 ·skip
  replace hA := hA.decT (by decide)
  refine wpList_nil ?_
  refine hK5 _ _ ?_
  clear hK5
  refine wp_seq_k fun K6 hK6 => ?_
  refine cond_t hA rfl ?_
  refine wp_skip ?_
  refine hK6 _ _ ?_
  clear hK6
  refine wp_seq_k fun K7 hK7 => ?_
  refine wp_block ?_
  refine wp_seq_k fun K8 hK8 => ?_
  refine wp_region_lit ?_
  refine sq hA (q_indexAg Tryz.underlying102 ti95 Tryz.underlying95 rfl rfl rfl ⟨by decide, by decide⟩ [I (cs.getD 0 0), I (0), I (2)] rfl) rfl fun a hA => ?_
  refine sl hA (lo_allocA hH ti95) rfl ?_
  clear hH; rintro _ w ⟨b_t4, rfl, hH⟩ a hA
  refine s0 hA (lo_storeAm hH ti95 rfl rfl (by first | rfl) (by first | rfl) (ones_cons rfl (ones_cons rfl (ones_cons rfl ones_nil)))) ?_
  clear hH; rintro _ w hH
  refine wpList_nil ?_
  refine hK8 _ _ ?_
  clear hK8
  refine wp_seq_k fun K9 hK9 => ?_
  refine wp_region_lit ?_
  refine sq hA (q_idxA1 (0) Tryz.underlying95 ti3 rfl rfl (rfl) (by first | omega | (simp; done) | (simp; omega) | (rw [List.length_map]; assumption) | assumption | rfl | (simp [*]; done) | (simp [*]; omega))) rfl fun a hA => ?_
  refine sq hA (q_loadB hH 0 rfl (List.mem_singleton.2 rfl) Tryz.underlying3 rfl rfl rfl) rfl fun a hA => ?_
  refine sq hA (q_idxA1 (1) Tryz.underlying95 ti3 rfl rfl (rfl) (by first | omega | (simp; done) | (simp; omega) | (rw [List.length_map]; assumption) | assumption | rfl | (simp [*]; done) | (simp [*]; omega))) rfl fun a hA => ?_
  refine sq hA (q_loadB hH 0 rfl (List.mem_singleton.2 rfl) Tryz.underlying3 rfl rfl rfl) rfl fun a hA => ?_
  refine sq hA (q_idxA1 (2) Tryz.underlying95 ti3 rfl rfl (rfl) (by first | omega | (simp; done) | (simp; omega) | (rw [List.length_map]; assumption) | assumption | rfl | (simp [*]; done) | (simp [*]; omega))) rfl fun a hA => ?_
  refine sq hA (q_loadB hH 0 rfl (List.mem_singleton.2 rfl) Tryz.underlying3 rfl rfl rfl) rfl fun a hA => ?_
  refine sl hA (lo_call fn46 rfl (between_any _ _ _)) rfl ?_
  rintro _ w ⟨rfl, hC⟩ a hA
  replace hH := HS.call0 hH hC
  clear hC
  replace hA := hA.decT (by omega)
  refine sq hA (q_not rfl) rfl fun a hA => ?_
  refine wpList_nil ?_
  refine hK9 _ _ ?_
  clear hK9
  refine cond_f hA rfl ?_
  refine wp_skip ?_
  refine block_normal ?_
  refine hK7 _ _ ?_
  clear hK7
  refine wp_region_lit ?_
  refine sq hA (q_addI (n := 1) rfl rfl (by omega)) rfl fun a hA => ?_
  refine mv hA fun a hA => ?_
  refine wpList_nil ?_
  replace hH := hH.pick [1, 0] (Hs' := [_, _]) rfl
  replace hH := hH.pick [0] (Hs' := [_]) rfl
  exact ⟨_, by omega, 1, hA.sub ⟨rfl, rfl, rfl, trivial⟩, hH, by omega, rfl⟩
 ·skip
  replace hA := hA.decT (by decide)
  refine wpList_nil ?_
  refine hK5 _ _ ?_
  clear hK5
  refine wp_seq_k fun K10 hK10 => ?_
  refine cond_t hA rfl ?_
  refine wp_skip ?_
  refine hK10 _ _ ?_
  clear hK10
  refine wp_seq_k fun K11 hK11 => ?_
  refine wp_block ?_
  refine wp_seq_k fun K12 hK12 => ?_
  refine wp_region_lit ?_
  refine sq hA (q_indexAg Tryz.underlying102 ti95 Tryz.underlying95 rfl rfl rfl ⟨by decide, by decide⟩ [I (cs.getD 1 0), I (2 * cs.getD 0 0 + 1), I (8)] rfl) rfl fun a hA => ?_
  refine sl hA (lo_allocA hH ti95) rfl ?_
  clear hH; rintro _ w ⟨b_t4, rfl, hH⟩ a hA
  refine s0 hA (lo_storeAm hH ti95 rfl rfl (by first | rfl) (by first | rfl) (ones_cons rfl (ones_cons rfl (ones_cons rfl ones_nil)))) ?_
  clear hH; rintro _ w hH
  refine wpList_nil ?_
  refine hK12 _ _ ?_
  clear hK12
  refine wp_seq_k fun K13 hK13 => ?_
  refine wp_region_lit ?_
  refine sq hA (q_idxA1 (0) Tryz.underlying95 ti3 rfl rfl (rfl) (by first | omega | (simp; done) | (simp; omega) | (rw [List.length_map]; assumption) | assumption | rfl | (simp [*]; done) | (simp [*]; omega))) rfl fun a hA => ?_
  refine sq hA (q_loadB hH 0 rfl (List.mem_singleton.2 rfl) Tryz.underlying3 rfl rfl rfl) rfl fun a hA => ?_
  refine sq hA (q_idxA1 (1) Tryz.underlying95 ti3 rfl rfl (rfl) (by first | omega | (simp; done) | (simp; omega) | (rw [List.length_map]; assumption) | assumption | rfl | (simp [*]; done) | (simp [*]; omega))) rfl fun a hA => ?_
  refine sq hA (q_loadB hH 0 rfl (List.mem_singleton.2 rfl) Tryz.underlying3 rfl rfl rfl) rfl fun a hA => ?_
  refine sq hA (q_idxA1 (2) Tryz.underlying95 ti3 rfl rfl (rfl) (by first | omega | (simp; done) | (simp; omega) | (rw [List.length_map]; assumption) | assumption | rfl | (simp [*]; done) | (simp [*]; omega))) rfl fun a hA => ?_
  refine sq hA (q_loadB hH 0 rfl (List.mem_singleton.2 rfl) Tryz.underlying3 rfl rfl rfl) rfl fun a hA => ?_
  refine sl hA (lo_call fn46 rfl (between_any _ _ _)) rfl ?_
  rintro _ w ⟨rfl, hC⟩ a hA
  replace hH := HS.call0 hH hC
  clear hC
  replace hA := hA.decT (by omega)
  refine sq hA (q_not rfl) rfl fun a hA => ?_
  refine wpList_nil ?_
  refine hK13 _ _ ?_
  clear hK13
  refine cond_f hA rfl ?_
  refine wp_skip ?_
  refine block_normal ?_
  refine hK11 _ _ ?_
  clear hK11
  refine wp_region_lit ?_
  refine sq hA (q_addI (n := 1) rfl rfl (by omega)) rfl fun a hA => ?_
  refine mv hA fun a hA => ?_
  refine wpList_nil ?_
  replace hH := hH.pick [1, 0] (Hs' := [_, _]) rfl
  replace hH := hH.pick [0] (Hs' := [_]) rfl
  exact ⟨_, by omega, 2, hA.sub ⟨rfl, rfl, rfl, trivial⟩, hH, by omega, rfl⟩
 ·skip
  replace hA := hA.decT (by decide)
  refine wpList_nil ?_
  refine hK5 _ _ ?_
  clear hK5
  refine wp_seq_k fun K14 hK14 => ?_
  refine cond_t hA rfl ?_
  refine wp_skip ?_
  refine hK14 _ _ ?_
  clear hK14
  refine wp_seq_k fun K15 hK15 => ?_
  refine wp_block ?_
  refine wp_seq_k fun K16 hK16 => ?_
  refine wp_region_lit ?_
  refine sq hA (q_indexAg Tryz.underlying102 ti95 Tryz.underlying95 rfl rfl rfl ⟨by decide, by decide⟩ [I (cs.getD 2 0), I (0), I (6)] rfl) rfl fun a hA => ?_
  refine sl hA (lo_allocA hH ti95) rfl ?_
  clear hH; rintro _ w ⟨b_t4, rfl, hH⟩ a hA
  refine s0 hA (lo_storeAm hH ti95 rfl rfl (by first | rfl) (by first | rfl) (ones_cons rfl (ones_cons rfl (ones_cons rfl ones_nil)))) ?_
  clear hH; rintro _ w hH
  refine wpList_nil ?_
  refine hK16 _ _ ?_
  clear hK16
  refine wp_seq_k fun K17 hK17 => ?_
  refine wp_region_lit ?_
  refine sq hA (q_idxA1 (0) Tryz.underlying95 ti3 rfl rfl (rfl) (by first | omega | (simp; done) | (simp; omega) | (rw [List.length_map]; assumption) | assumption | rfl | (simp [*]; done) | (simp [*]; omega))) rfl fun a hA => ?_
  refine sq hA (q_loadB hH 0 rfl (List.mem_singleton.2 rfl) Tryz.underlying3 rfl rfl rfl) rfl fun a hA => ?_
  refine sq hA (q_idxA1 (1) Tryz.underlying95 ti3 rfl rfl (rfl) (by first | omega | (simp; done) | (simp; omega) | (rw [List.length_map]; assumption) | assumption | rfl | (simp [*]; done) | (simp [*]; omega))) rfl fun a hA => ?_
  refine sq hA (q_loadB hH 0 rfl (List.mem_singleton.2 rfl) Tryz.underlying3 rfl rfl rfl) rfl fun a hA => ?_
  refine sq hA (q_idxA1 (2) Tryz.underlying95 ti3 rfl rfl (rfl) (by first | omega | (simp; done) | (simp; omega) | (rw [List.length_map]; assumption) | assumption | rfl | (simp [*]; done) | (simp [*]; omega))) rfl fun a hA => ?_
  refine sq hA (q_loadB hH 0 rfl (List.mem_singleton.2 rfl) Tryz.underlying3 rfl rfl rfl) rfl fun a hA => ?_
  refine sl hA (lo_call fn46 rfl (between_any _ _ _)) rfl ?_
  rintro _ w ⟨rfl, hC⟩ a hA
  replace hH := HS.call0 hH hC
  clear hC
  replace hA := hA.decT (by omega)
  refine sq hA (q_not rfl) rfl fun a hA => ?_
  refine wpList_nil ?_
  refine hK17 _ _ ?_
  clear hK17
  refine cond_f hA rfl ?_
  refine wp_skip ?_
  refine block_normal ?_
  refine hK15 _ _ ?_
  clear hK15
  refine wp_region_lit ?_
  refine sq hA (q_addI (n := 1) rfl rfl (by omega)) rfl fun a hA => ?_
  refine mv hA fun a hA => ?_
  refine wpList_nil ?_
  replace hH := hH.pick [1, 0] (Hs' := [_, _]) rfl
  replace hH := hH.pick [0] (Hs' := [_]) rfl
  exact ⟨_, by omega, 3, hA.sub ⟨rfl, rfl, rfl, trivial⟩, hH, by omega, rfl⟩
 ·skip
  replace hA := hA.decT (by decide)
  refine wpList_nil ?_
  refine hK5 _ _ ?_
  clear hK5
  refine wp_seq_k fun K18 hK18 => ?_
  refine cond_t hA rfl ?_
  refine wp_skip ?_
  refine hK18 _ _ ?_
  clear hK18
  refine wp_seq_k fun K19 hK19 => ?_
  refine wp_block ?_
  refine wp_seq_k fun K20 hK20 => ?_
  refine wp_region_lit ?_
  refine sq hA (q_indexAg Tryz.underlying102 ti95 Tryz.underlying95 rfl rfl rfl ⟨by decide, by decide⟩ [I (cs.getD 6 0), I (0), I (6)] rfl) rfl fun a hA => ?_
  refine sl hA (lo_allocA hH ti95) rfl ?_
  clear hH; rintro _ w ⟨b_t4, rfl, hH⟩ a hA
  refine s0 hA (lo_storeAm hH ti95 rfl rfl (by first | rfl) (by first | rfl) (ones_cons rfl (ones_cons rfl (ones_cons rfl ones_nil)))) ?_
  clear hH; rintro _ w hH
  refine wpList_nil ?_
  refine hK20 _ _ ?_
  clear hK20
  refine wp_seq_k fun K21 hK21 => ?_
  refine wp_region_lit ?_
  refine sq hA (q_idxA1 (0) Tryz.underlying95 ti3 rfl rfl (rfl) (by first | omega | (simp; done) | (simp; omega) | (rw [List.length_map]; assumption) | assumption | rfl | (simp [*]; done) | (simp [*]; omega))) rfl fun a hA => ?_
  refine sq hA (q_loadB hH 0 rfl (List.mem_singleton.2 rfl) Tryz.underlying3 rfl rfl rfl) rfl fun a hA => ?_
  refine sq hA (q_idxA1 (1) Tryz.underlying95 ti3 rfl rfl (rfl) (by first | omega | (simp; done) | (simp; omega) | (rw [List.length_map]; assumption) | assumption | rfl | (simp [*]; done) | (simp [*]; omega))) rfl fun a hA => ?_
  refine sq hA (q_loadB hH 0 rfl (List.mem_singleton.2 rfl) Tryz.underlying3 rfl rfl rfl) rfl fun a hA => ?_
  refine sq hA (q_idxA1 (2) Tryz.underlying95 ti3 rfl rfl (rfl) (by first | omega | (simp; done) | (simp; omega) | (rw [List.length_map]; assumption) | assumption | rfl | (simp [*]; done) | (simp [*]; omega))) rfl fun a hA => ?_
  refine sq hA (q_loadB hH 0 rfl (List.mem_singleton.2 rfl) Tryz.underlying3 rfl rfl rfl) rfl fun a hA => ?_
  refine sl hA (lo_call fn46 rfl (between_any _ _ _)) rfl ?_
  rintro _ w ⟨rfl, hC⟩ a hA
  replace hH := HS.call0 hH hC
  clear hC
  replace hA := hA.decT (by omega)
  refine sq hA (q_not rfl) rfl fun a hA => ?_
  refine wpList_nil ?_
  refine hK21 _ _ ?_
  clear hK21
  refine cond_f hA rfl ?_
  refine wp_skip ?_
  refine block_normal ?_
  refine hK19 _ _ ?_
  clear hK19
  refine wp_region_lit ?_
  refine sq hA (q_addI (n := 1) rfl rfl (by omega)) rfl fun a hA => ?_
  refine mv hA fun a hA => ?_
  refine wpList_nil ?_
  replace hH := hH.pick [1, 0] (Hs' := [_, _]) rfl
  replace hH := hH.pick [0] (Hs' := [_]) rfl
  exact ⟨_, by omega, 4, hA.sub ⟨rfl, rfl, rfl, trivial⟩, hH, by omega, rfl⟩
 ·skip
  replace hA := hA.decT (by decide)
  refine wpList_nil ?_
  refine hK5 _ _ ?_
  clear hK5
  refine wp_seq_k fun K22 hK22 => ?_
  refine cond_t hA rfl ?_
  refine wp_skip ?_
  refine hK22 _ _ ?_
  clear hK22
  refine wp_seq_k fun K23 hK23 => ?_
  refine wp_block ?_
  refine wp_seq_k fun K24 hK24 => ?_
  refine wp_region_lit ?_
  refine sq hA (q_indexAg Tryz.underlying102 ti95 Tryz.underlying95 rfl rfl rfl ⟨by decide, by decide⟩ [I (cs.getD 3 0), I (1), I (256)] rfl) rfl fun a hA => ?_
  refine sl hA (lo_allocA hH ti95) rfl ?_
  clear hH; rintro _ w ⟨b_t4, rfl, hH⟩ a hA
  refine s0 hA (lo_storeAm hH ti95 rfl rfl (by first | rfl) (by first | rfl) (ones_cons rfl (ones_cons rfl (ones_cons rfl ones_nil)))) ?_
  clear hH; rintro _ w hH
  refine wpList_nil ?_
  refine hK24 _ _ ?_
  clear hK24
  refine wp_seq_k fun K25 hK25 => ?_
  refine wp_region_lit ?_
  refine sq hA (q_idxA1 (0) Tryz.underlying95 ti3 rfl rfl (rfl) (by first | omega | (simp; done) | (simp; omega) | (rw [List.length_map]; assumption) | assumption | rfl | (simp [*]; done) | (simp [*]; omega))) rfl fun a hA => ?_
  refine sq hA (q_loadB hH 0 rfl (List.mem_singleton.2 rfl) Tryz.underlying3 rfl rfl rfl) rfl fun a hA => ?_
  refine sq hA (q_idxA1 (1) Tryz.underlying95 ti3 rfl rfl (rfl) (by first | omega | (simp; done) | (simp; omega) | (rw [List.length_map]; assumption) | assumption | rfl | (simp [*]; done) | (simp [*]; omega))) rfl fun a hA => ?_
  refine sq hA (q_loadB hH 0 rfl (List.mem_singleton.2 rfl) Tryz.underlying3 rfl rfl rfl) rfl fun a hA => ?_
  refine sq hA (q_idxA1 (2) Tryz.underlying95 ti3 rfl rfl (rfl) (by first | omega | (simp; done) | (simp; omega) | (rw [List.length_map]; assumption) | assumption | rfl | (simp [*]; done) | (simp [*]; omega))) rfl fun a hA => ?_
  refine sq hA (q_loadB hH 0 rfl (List.mem_singleton.2 rfl) Tryz.underlying3 rfl rfl rfl) rfl fun a hA => ?_
  refine sl hA (lo_call fn46 rfl (between_any _ _ _)) rfl ?_
  rintro _ w ⟨rfl, hC⟩ a hA
  replace hH := HS.call0 hH hC
  clear hC
  replace hA := hA.decT (by omega)
  refine sq hA (q_not rfl) rfl fun a hA => ?_
  refine wpList_nil ?_
  refine hK25 _ _ ?_
  clear hK25
  refine cond_f hA rfl ?_
  refine wp_skip ?_
  refine block_normal ?_
  refine hK23 _ _ ?_
  clear hK23
  refine wp_region_lit ?_
  refine sq hA (q_addI (n := 1) rfl rfl (by omega)) rfl fun a hA => ?_
  refine mv hA fun a hA => ?_
  refine wpList_nil ?_
  replace hH := hH.pick [1, 0] (Hs' := [_, _]) rfl
  replace hH := hH.pick [0] (Hs' := [_]) rfl
  exact ⟨_, by omega, 5, hA.sub ⟨rfl, rfl, rfl, trivial⟩, hH, by omega, rfl⟩
 ·skip
  replace hA := hA.decT (by decide)
  refine wpList_nil ?_
  refine hK5 _ _ ?_
  clear hK5
  refine wp_seq_k fun K26 hK26 => ?_
  refine cond_t hA rfl ?_
  refine wp_skip ?_
  refine hK26 _ _ ?_
  clear hK26
  refine wp_seq_k fun K27 hK27 => ?_
  refine wp_block ?_
  refine wp_seq_k fun K28 hK28 => ?_
  refine wp_region_lit ?_
  refine sq hA (q_indexAg Tryz.underlying102 ti95 Tryz.underlying95 rfl rfl rfl ⟨by decide, by decide⟩ [I (cs.getD 4 0), I (1), I (64)] rfl) rfl fun a hA => ?_
  refine sl hA (lo_allocA hH ti95) rfl ?_
  clear hH; rintro _ w ⟨b_t4, rfl, hH⟩ a hA
  refine s0 hA (lo_storeAm hH ti95 rfl rfl (by first | rfl) (by first | rfl) (ones_cons rfl (ones_cons rfl (ones_cons rfl ones_nil)))) ?_
  clear hH; rintro _ w hH
  refine wpList_nil ?_
  refine hK28 _ _ ?_
  clear hK28
  refine wp_seq_k fun K29 hK29 => ?_
  refine wp_region_lit ?_
  refine sq hA (q_idxA1 (0) Tryz.underlying95 ti3 rfl rfl (rfl) (by first | omega | (simp; done) | (simp; omega) | (rw [List.length_map]; assumption) | assumption | rfl | (simp [*]; done) | (simp [*]; omega))) rfl fun a hA => ?_
  refine sq hA (q_loadB hH 0 rfl (List.mem_singleton.2 rfl) Tryz.underlying3 rfl rfl rfl) rfl fun a hA => ?_
  refine sq hA (q_idxA1 (1) Tryz.underlying95 ti3 rfl rfl (rfl) (by first | omega | (simp; done) | (simp; omega) | (rw [List.length_map]; assumption) | assumption | rfl | (simp [*]; done) | (simp [*]; omega))) rfl fun a hA => ?_
  refine sq hA (q_loadB hH 0 rfl (List.mem_singleton.2 rfl) Tryz.underlying3 rfl rfl rfl) rfl fun a hA => ?_
  refine sq hA (q_idxA1 (2) Tryz.underlying95 ti3 rfl rfl (rfl) (by first | omega | (simp; done) | (simp; omega) | (rw [List.length_map]; assumption) | assumption | rfl | (simp [*]; done) | (simp [*]; omega))) rfl fun a hA => ?_
  refine sq hA (q_loadB hH 0 rfl (List.mem_singleton.2 rfl) Tryz.underlying3 rfl rfl rfl) rfl fun a hA => ?_
  refine sl hA (lo_call fn46 rfl (between_any _ _ _)) rfl ?_
  rintro _ w ⟨rfl, hC⟩ a hA
  replace hH := HS.call0 hH hC
  clear hC
  replace hA := hA.decT (by omega)
  refine sq hA (q_not rfl) rfl fun a hA => ?_
  refine wpList_nil ?_
  refine hK29 _ _ ?_
  clear hK29
  refine cond_f hA rfl ?_
  refine wp_skip ?_
  refine block_normal ?_
  refine hK27 _ _ ?_
  clear hK27
  refine wp_region_lit ?_
  refine sq hA (q_addI (n := 1) rfl rfl (by omega)) rfl fun a hA => ?_
  refine mv hA fun a hA => ?_
  refine wpList_nil ?_
  replace hH := hH.pick [1, 0] (Hs' := [_, _]) rfl
  replace hH := hH.pick [0] (Hs' := [_]) rfl
  exact ⟨_, by omega, 6, hA.sub ⟨rfl, rfl, rfl, trivial⟩, hH, by omega, rfl⟩
 ·skip
  replace hA := hA.decT (by decide)
  refine wpList_nil ?_
  refine hK5 _ _ ?_
  clear hK5
  refine wp_seq_k fun K30 hK30 => ?_
  refine cond_t hA rfl ?_
  refine wp_skip ?_
  refine hK30 _ _ ?_
  clear hK30
  refine wp_seq_k fun K31 hK31 => ?_
  refine wp_block ?_
  refine wp_seq_k fun K32 hK32 => ?_
  refine wp_region_lit ?_
  refine sq hA (q_indexAg Tryz.underlying102 ti95 Tryz.underlying95 rfl rfl rfl ⟨by decide, by decide⟩ [I (cs.getD 5 0), I (1), I (10000)] rfl) rfl fun a hA => ?_
  refine sl hA (lo_allocA hH ti95) rfl ?_
  clear hH; rintro _ w ⟨b_t4, rfl, hH⟩ a hA
  refine s0 hA (lo_storeAm hH ti95 rfl rfl (by first | rfl) (by first | rfl) (ones_cons rfl (ones_cons rfl (ones_cons rfl ones_nil)))) ?_
  clear hH; rintro _ w hH
  refine wpList_nil ?_
  refine hK32 _ _ ?_
  clear hK32
  refine wp_seq_k fun K33 hK33 => ?_
  refine wp_region_lit ?_
  refine sq hA (q_idxA1 (0) Tryz.underlying95 ti3 rfl rfl (rfl) (by first | omega | (simp; done) | (simp; omega) | (rw [List.length_map]; assumption) | assumption | rfl | (simp [*]; done) | (simp [*]; omega))) rfl fun a hA => ?_
  refine sq hA (q_loadB hH 0 rfl (List.mem_singleton.2 rfl) Tryz.underlying3 rfl rfl rfl) rfl fun a hA => ?_
  refine sq hA (q_idxA1 (1) Tryz.underlying95 ti3 rfl rfl (rfl) (by first | omega | (simp; done) | (simp; omega) | (rw [List.length_map]; assumption) | assumption | rfl | (simp [*]; done) | (simp [*]; omega))) rfl fun a hA => ?_
  refine sq hA (q_loadB hH 0 rfl (List.mem_singleton.2 rfl) Tryz.underlying3 rfl rfl rfl) rfl fun a hA => ?_
  refine sq hA (q_idxA1 (2) Tryz.underlying95 ti3 rfl rfl (rfl) (by first | omega | (simp; done) | (simp; omega) | (rw [List.length_map]; assumption) | assumption | rfl | (simp [*]; done) | (simp [*]; omega))) rfl fun a hA => ?_
  refine sq hA (q_loadB hH 0 rfl (List.mem_singleton.2 rfl) Tryz.underlying3 rfl rfl rfl) rfl fun a hA => ?_
  refine sl hA (lo_call fn46 rfl (between_any _ _ _)) rfl ?_
  rintro _ w ⟨rfl, hC⟩ a hA
  replace hH := HS.call0 hH hC
  clear hC
  replace hA := hA.decT (by omega)
  refine sq hA (q_not rfl) rfl fun a hA => ?_
  refine wpList_nil ?_
  refine hK33 _ _ ?_
  clear hK33
  refine cond_f hA rfl ?_
  refine wp_skip ?_
  refine block_normal ?_
  refine hK31 _ _ ?_
  clear hK31
  refine wp_region_lit ?_
  refine sq hA (q_addI (n := 1) rfl rfl (by omega)) rfl fun a hA => ?_
  refine mv hA fun a hA => ?_
  refine wpList_nil ?_
  replace hH := hH.pick [1, 0] (Hs' := [_, _]) rfl
  replace hH := hH.pick [0] (Hs' := [_]) rfl
  exact ⟨_, by omega, 7, hA.sub ⟨rfl, rfl, rfl, trivial⟩, hH, by omega, rfl⟩
 ·skip
  replace hA := hA.decF (by decide)
  refine wpList_nil ?_
  refine hK5 _ _ ?_
  clear hK5
  refine wp_seq_k fun K34 hK34 => ?_
  refine cond_f hA rfl ?_
  refine wp_exit ?_
  refine then_exit ?_
  replace hH := HS.unfold [] hNR4 hH
  refine then_exit ?_
  refine exit_here ?_
  refine hK2 _ _ ?_
  clear hK2
  replace hA := hA.s1 2
  refine wp_seq_k fun K35 hK35 => ?_
  refine wp_region_lit ?_
  refine asg hA fun a hA => ?_
  refine wpList_nil ?_
  refine hK35 _ _ ?_
  clear hK35
  refine wp_ret ?_
  refine post_ret hA (res_1 rfl hA rfl) ?_
  replace hH := hH.pick [] (Hs' := []) rfl
  exact ⟨_, rfl, rfl, hH⟩

theorem small_any {w0 : World} (n h : Int) :
    Calls Tryz.prog 16 #[I n, I h] w0 (Ret fun r w' => r = .agg (([0, 1, h, n, 1, 1, 0] : List Int).map I).toArray ∧ HS [] w0 w' []) := by
 have hH := HS.start w0
 refine start (n := 8) (E := [(0, _), (1, _)]) Tryz.func16 rfl rfl rfl (args_look rfl) ?_
 intro a hA
 refine wp_seq_k fun K1 hK1 => ?_
 refine wp_region_lit ?_
 refine sl hA (lo_allocA hH ti23) rfl ?_
 clear hH; rintro _ w ⟨b_t4, rfl, hH⟩ a hA
 replace hH : HS _ _ _ ([(b_t4, Obj.cells ((List.replicate 7 (0 : Int)).map I).toArray 23 (0, 0))] :: _) := hH
 refine wpList_nil ?_
 refine hK1 _ _ ?_
 clear hK1
 refine wp_seq_k fun K2 hK2 => ?_
 refine wp_region_lit ?_
 refine mv hA fun a hA => ?_
 refine mv hA fun a hA => ?_
 refine sq hA (q_build (v := .agg (([0, 1, h, n, 1, 1, 0] : List Int).map I).toArray) (vs := [(1, I 1), (2, I h), (3, I n), (4, I 1), (5, I 1)]) rfl (fun w => run_build w _ _ _ (by kernel_rfl))) rfl fun a hA => ?_
 refine s0 hA (lo_storeAm hH ti23 rfl rfl (by first | (simp; done) | (rw [List.length_map]; assumption) | rfl | (simp [*]; done)) (by first | (simp; done) | (rw [List.length_map]; assumption) | rfl | (simp [*]; done)) (one_I _)) ?_
 clear hH; rintro _ w hH
 refine wpList_nil ?_
 refine hK2 _ _ ?_
 clear hK2
 replace hA := hA.s1 4
 refine wp_ret ?_
 refine post_ret hA (res_c rfl hA rfl (resW hH 0 rfl Tryz.underlying23 rfl ti23 (by first | rfl | (simp; done)))) ?_
 replace hH := hH.pick [] (Hs' := []) rfl
 exact ⟨_, rfl, rfl, hH⟩

theorem neww_any {w0 : World} {lv : Nat} (hg : Gl lv w0) (cs : List Int) (hcs : cs.length = 7) (hC : RightC cs) (s : Bs) (hsd : s.length = 32) (key : Bs) (hkey : key.length = 32) (n h : Nat) (hn3 : cs.getD 3 0 = n) (hn2 : cs.getD 2 0 = h) (hR : R7 n h) :
    Calls Tryz.prog 7 #[(.agg ((cs).map I).toArray), (.agg ((s).map B8).toArray), (.agg ((key).map B8).toArray)] w0 (Ret fun r w' => ∃ b_w b_k b_s b_m v_l N, r = .tuple #[.pointer (some ⟨b_w, 0, none⟩), I 0] ∧ OwD 25 v_l (leavesK s n (2 ^ h)) N ∧ HS [] w0 w' [[(b_w, Obj.cells (wkC b_k key b_m).toArray 64 (0, 0))], [(b_k, Obj.cells (keyC (.func (.func 48) #[] #[.pointer (some ⟨b_s, 0, none⟩)]) v_l (pubK s n h) n 0).toArray 107 (0, 0))], [(b_s, Obj.cells (s.map B8).toArray 25 (0, 0))], N, [(b_m, mapO [])]]) := by
 have hH := HS.start w0
 refine start (n := 33) (E := [(0, _), (1, _), (2, _)]) Tryz.func7 rfl rfl rfl (args_look rfl) ?_
 intro a hA
 refine wp_seq_k fun K1 hK1 => ?_
 refine wp_region_lit ?_
 refine sl hA (lo_boxA hH rfl) rfl ?_
 clear hH; rintro _ w ⟨b_t3, rfl, hH⟩ a hA
 refine sl hA (lo_boxA hH rfl) rfl ?_
 clear hH; rintro _ w ⟨b_t4, rfl, hH⟩ a hA
 refine sl hA (lo_boxA hH rfl) rfl ?_
 clear hH; rintro _ w ⟨b_t5, rfl, hH⟩ a hA
 refine asg hA fun a hA => ?_
 refine asg hA fun a hA => ?_
 refine wpList_nil ?_
 refine hK1 _ _ ?_
 clear hK1
 replace hA := hA.s5 7 6 5 4 3
 refine wp_seq_k fun K2 hK2 => ?_
 refine wp_seq_k fun K3 hK3 => ?_
 refine wp_region_lit ?_
 refine sq hA (q_loadW hH 2 rfl Tryz.underlying23 rfl ti23 rfl (by first | omega | (simp; done) | (simp; omega) | (rw [List.length_map]; assumption) | assumption | rfl | (simp [*]; done) | (simp [*]; omega))) rfl fun a hA => ?_
 refine sl hA (lo_call fn19 rfl (check_any _ (by assumption) (by assumption))) rfl ?_
 rintro _ w ⟨rfl, hC⟩ a hA
 replace hH := HS.call0 hH hC
 clear hC
 refine asg hA fun a hA => ?_
 refine wpList_nil ?_
 refine hK3 _ _ ?_
 clear hK3
 replace hA := hA.s6 8 7 6 5 4 3
 refine wp_seq_k fun K4 hK4 => ?_
 refine wp_region_lit ?_
 refine mv hA fun a hA => ?_
 refine sq hA (q_neqI (n := 0) rfl rfl) rfl fun a hA => ?_
 refine wpList_nil ?_
 refine hK4 _ _ ?_
 clear hK4
 replace hA := hA.s7 14 8 7 6 5 4 3
 refine cond_d hA rfl (fun hnn => absurd hnn ((fun h => h rfl))) (fun _ => ?_)
 refine wp_skip ?_
 refine hK2 _ _ ?_
 clear hK2
 replace hA := hA.s5 7 6 5 4 3
 refine wp_seq_k fun K5 hK5 => ?_
 refine wp_region_lit ?_
 refine sq hA (q_loadW hH 1 rfl Tryz.underlying25 rfl ti25 rfl (by first | omega | (simp; done) | (simp; omega) | (rw [List.length_map]; assumption) | assumption | rfl | (simp [*]; done) | (simp [*]; omega))) rfl fun a hA => ?_
 refine sq hA (q_fld 3 Tryz.underlying23 rfl rfl ti3 rfl) rfl fun a hA => ?_
 refine sq hA (q_loadBm ((0 : Int)) hH 2 rfl Tryz.underlying3 rfl rfl (by first | omega | (simp; done) | (simp; omega) | (rw [List.length_map]; assumption) | assumption | rfl | (simp [*]; done) | (simp [*]; omega))) rfl fun a hA => ?_
 rw [hn3] at hA
 refine sq hA (q_fld 2 Tryz.underlying23 rfl rfl ti3 rfl) rfl fun a hA => ?_
 refine sq hA (q_loadBm ((0 : Int)) hH 2 rfl Tryz.underlying3 rfl rfl (by first | omega | (simp; done) | (simp; omega) | (rw [List.length_map]; assumption) | assumption | rfl | (simp [*]; done) | (simp [*]; omega))) rfl fun a hA => ?_
 rw [hn2] at hA
 refine sl hA (lo_call fn20 rfl (new7_any (hg.mono0 hH) s hsd n h hR)) rfl ?_
 rintro _ w ⟨b_k, b_s, v_l, N_l, rfl, hO_l, hC⟩ a hA
 replace hH := HS.call0 hH hC
 clear hC
 have hshp : Shp v_l (2 ^ (h)) := by have := Own.shp hO_l; rwa [leavesK_length] at this
 refine mv hA fun a hA => ?_
 refine sq hA (q_extract rfl rfl) rfl fun a hA => ?_
 refine sq hA (q_extract rfl rfl) rfl fun a hA => ?_
 refine asg hA fun a hA => ?_
 refine asg hA fun a hA => ?_
 refine wpList_nil ?_
 refine hK5 _ _ ?_
 clear hK5
 replace hA := hA.s5 10 9 7 6 5
 refine wp_seq_k fun K6 hK6 => ?_
 refine wp_seq_k fun K7 hK7 => ?_
 refine wp_region_lit ?_
 refine mv hA fun a hA => ?_
 refine sq hA (q_neqI (n := 0) rfl rfl) rfl fun a hA => ?_
 refine wpList_nil ?_
 refine hK7 _ _ ?_
 clear hK7
 replace hA := hA.s6 26 10 9 7 6 5
 refine cond_d hA rfl (fun hnn => absurd hnn ((fun h => h rfl))) (fun _ => ?_)
 refine wp_skip ?_
 refine hK6 _ _ ?_
 clear hK6
 replace hA := hA.s4 9 7 6 5
 refine wp_seq_k fun K8 hK8 => ?_
 refine wp_region_lit ?_
 refine mv hA fun a hA => ?_
 refine sq hA (q_loadW hH 3 rfl Tryz.underlying25 rfl ti25 rfl (by first | omega | (simp; done) | (simp; omega) | (rw [List.length_map]; assumption) | assumption | rfl | (simp [*]; done) | (simp [*]; omega))) rfl fun a hA => ?_
 refine sl hA (lo_makeMap hH) rfl ?_
 clear hH; rintro _ w ⟨b_t30, rfl, hH⟩ a hA
 refine sq hA (Runs.eq (q_buildC (css := [[.pointer (some ⟨b_k, 0, none⟩)], key.map B8, [.map (some b_t30)]]) (z := [.pointer none] ++ (List.replicate 32 0#8).map B8 ++ [.map none]) (BT.mk (pl := [(0, 1), (1, 32), (33, 1)]) (it := Tryz.t64) (by kernel_rfl) Tryz.underlying64 (by kernel_rfl) (by kernel_rfl)) rfl ⟨rfl, ⟨_, rfl, rfl, by decide⟩, rfl, ⟨_, rfl, by simp [hkey], by decide⟩, rfl, ⟨_, rfl, rfl, by decide⟩, trivial⟩) (putL_wk hkey)) rfl fun a hA => ?_
 refine sl hA (lo_boxA hH rfl) rfl ?_
 clear hH; rintro _ w ⟨b_t32, rfl, hH⟩ a hA
 refine asg hA fun a hA => ?_
 refine asg hA fun a hA => ?_
 refine wpList_nil ?_
 refine hK8 _ _ ?_
 clear hK8
 replace hA := hA.s2 7 6
 refine wp_ret ?_
 refine post_ret hA (res_2 rfl hA rfl rfl) ?_
 replace hH := hH.pick [0, 2, 3, 4, 1, 5, 6, 7] (Hs' := [_, _, _, _, _, _, _, _]) rfl
 replace hH := hH.pick [0, 1, 2, 3, 4] (Hs' := [_, _, _, _, _]) rfl
 exact ⟨_, rfl, b_t32, b_k, b_s, b_t30, v_l, N_l, rfl, hO_l, hH⟩

end Go.Proofs.YtnnkgdijaekcfaaGreatDoor
