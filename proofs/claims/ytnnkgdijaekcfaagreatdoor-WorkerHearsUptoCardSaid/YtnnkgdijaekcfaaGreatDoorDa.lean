/- Layer 5 (ots), the program's and the document's. -/
import Derived.Test.YtnnkgdijaekcfaaGreatDoorBi
import Derived.Test.YtnnkgdijaekcfaaGreatDoorBk
import Derived.Test.YtnnkgdijaekcfaaGreatDoorMzc
namespace Go.Proofs.YtnnkgdijaekcfaaGreatDoor
open Go
set_option linter.unusedVariables false
set_option linter.unusedSimpArgs false
set_option maxRecDepth 100000

theorem bit_any {w0 : World} (v : Value) (l : Bs) (i : Nat) (hr : By [] w0 v l) (hi : i / 8 < l.length) (hi2 : i ≤ 1048576) :
    Calls Tryz.prog 117 #[v, I i] w0 (Ret fun r w' => r = .tuple #[I (bitV l i), I 0] ∧ HS [] w0 w' []) := by
 have hH := HS.start w0
 refine start (n := 26) (E := [(0, _), (1, _)]) Tryz.func117 rfl rfl rfl (args_look rfl) ?_
 intro a hA
 refine wp_seq_k fun K1 hK1 => ?_
 refine wp_region_lit ?_
 refine asg hA fun a hA => ?_
 refine asg hA fun a hA => ?_
 refine wpList_nil ?_
 refine hK1 _ _ ?_
 clear hK1
 refine wp_seq_k fun K2 hK2 => ?_
 refine wp_seq_k fun K3 hK3 => ?_
 refine wp_region_lit ?_
 refine mv hA fun a hA => ?_
 refine sq hA (Runs.bf (q_lssI (n := 0) rfl rfl) (by omega)) rfl fun a hA => ?_
 refine mv hA fun a hA => ?_
 refine gq hA rfl rfl (q_move rfl) rfl fun a hA => ?_
 refine gq hA rfl rfl (q_shrI (n := 3) 8 rfl rfl (by decide) (by decide) (by omega)) rfl fun a hA => ?_
 refine gq hA rfl rfl (q_move rfl) rfl fun a hA => ?_
 refine gq hA rfl rfl (q_len Tryz.underlying41 rfl (Rd.shp hr)) rfl fun a hA => ?_
 refine gq hA rfl rfl (q_geqI rfl rfl) rfl fun a hA => ?_
 refine sq hA (q_pick_f rfl rfl) rfl fun a hA => ?_
 refine wpList_nil ?_
 refine hK3 _ _ ?_
 clear hK3
 replace hA := hA.s5 14 5 4 0 1
 refine cond_d hA rfl (fun hnn => absurd hnn (by omega)) (fun _ => ?_)
 refine wp_skip ?_
 refine hK2 _ _ ?_
 clear hK2
 replace hA := hA.s4 5 4 0 1
 refine wp_seq_k fun K4 hK4 => ?_
 refine wp_region_lit ?_
 refine mv hA fun a hA => ?_
 refine mv hA fun a hA => ?_
 refine sq hA (q_shrI (n := 3) 8 rfl rfl (by decide) (by decide) (by omega)) rfl fun a hA => ?_
 refine sq hA (q_idx1 ((i / 8)) Tryz.underlying41 ti5 rfl rfl (by first | omega | rfl) (Rd.shp hr) (by first | omega | (simp; done) | (simp; omega) | (rw [List.length_map]; assumption) | assumption | rfl | (simp [*]; done) | (simp [*]; omega))) rfl fun a hA => ?_
 refine sq hA (q_loadRm (0#8) Tryz.underlying5 rfl rfl (hH.rd hr) (by first | omega | (simp; done) | (simp; omega) | (rw [List.length_map]; assumption) | assumption | rfl | (simp [*]; done) | (simp [*]; omega))) rfl fun a hA => ?_
 refine mv hA fun a hA => ?_
 refine sq hA (q_andI (b := 7) rfl rfl (by omega) (by omega)) rfl fun a hA => ?_
 rw [and7] at hA
 refine sq hA (q_subI (m := 7) rfl rfl (by omega)) rfl fun a hA => ?_
 rw [show ((7 : Int) - ((i % 8 : Nat) : Int)) = ((7 - i % 8 : Nat) : Int) by omega] at hA
 refine sq hA (q_shr8 rfl rfl) rfl fun a hA => ?_
 refine sq hA (q_cv8_I Tryz.underlying5 Tryz.underlying3 rfl (Nat.le_trans (Nat.le_of_lt (BitVec.isLt _)) (by decide))) rfl fun a hA => ?_
 refine sq hA (q_andI (b := 1) rfl rfl (by first | omega | exact Nat.lt_of_lt_of_le (BitVec.isLt _) (by decide)) (by first | omega | exact Nat.lt_of_lt_of_le (BitVec.isLt _) (by decide))) rfl fun a hA => ?_
 refine asg hA fun a hA => ?_
 refine asg hA fun a hA => ?_
 refine wpList_nil ?_
 refine hK4 _ _ ?_
 clear hK4
 replace hA := hA.s2 5 4
 refine wp_ret ?_
 refine post_ret hA (res_2 rfl hA rfl rfl) ?_
 exact ⟨_, rfl, by rw [bit_prog]; rfl, hH⟩

theorem refbit_any {w0 : World} (v : Value) (l : Bs) (i : Nat) (hr : By [] w0 v l) (hi : i / 8 < l.length) (hi2 : i ≤ 1048576) :
    Calls Tryz.prog 120 #[v, I i] w0 (Ret fun r w' => r = .tuple #[I (bitV l i), I 0] ∧ HS [] w0 w' []) := by
 have hH := HS.start w0
 refine start (n := 33) (E := [(0, _), (1, _)]) Tryz.func120 rfl rfl rfl (args_look rfl) ?_
 intro a hA
 have hX := (l.getD (i / 8) 0#8).isLt
 refine wp_seq_k fun K1 hK1 => ?_
 refine wp_region_lit ?_
 refine asg hA fun a hA => ?_
 refine asg hA fun a hA => ?_
 refine wpList_nil ?_
 refine hK1 _ _ ?_
 clear hK1
 refine wp_seq_k fun K2 hK2 => ?_
 refine wp_seq_k fun K3 hK3 => ?_
 refine wp_region_lit ?_
 refine mv hA fun a hA => ?_
 refine sq hA (Runs.bf (q_lssI (n := 0) rfl rfl) (by omega)) rfl fun a hA => ?_
 refine mv hA fun a hA => ?_
 refine gq hA rfl rfl (q_move rfl) rfl fun a hA => ?_
 refine gq hA rfl rfl (q_quoI (n := 8) rfl rfl (by omega)) rfl fun a hA => ?_
 refine gq hA rfl rfl (q_move rfl) rfl fun a hA => ?_
 refine gq hA rfl rfl (q_len Tryz.underlying41 rfl (Rd.shp hr)) rfl fun a hA => ?_
 refine gq hA rfl rfl (q_geqI rfl rfl) rfl fun a hA => ?_
 refine sq hA (q_pick_f rfl rfl) rfl fun a hA => ?_
 refine wpList_nil ?_
 refine hK3 _ _ ?_
 clear hK3
 replace hA := hA.s5 16 5 4 0 1
 refine cond_d hA rfl (fun hnn => absurd hnn (by omega)) (fun _ => ?_)
 refine wp_skip ?_
 refine hK2 _ _ ?_
 clear hK2
 replace hA := hA.s4 5 4 0 1
 refine wp_seq_k fun K4 hK4 => ?_
 refine wp_region_lit ?_
 refine mv hA fun a hA => ?_
 refine mv hA fun a hA => ?_
 refine sq hA (q_quoI (n := 8) rfl rfl (by omega)) rfl fun a hA => ?_
 refine sq hA (q_idx1 ((i / 8)) Tryz.underlying41 ti5 rfl rfl (by first | omega | rfl) (Rd.shp hr) (by first | omega | (simp; done) | (simp; omega) | (rw [List.length_map]; assumption) | assumption | rfl | (simp [*]; done) | (simp [*]; omega))) rfl fun a hA => ?_
 refine sq hA (q_loadRm (0#8) Tryz.underlying5 rfl rfl (hH.rd hr) (by first | omega | (simp; done) | (simp; omega) | (rw [List.length_map]; assumption) | assumption | rfl | (simp [*]; done) | (simp [*]; omega))) rfl fun a hA => ?_
 refine sq hA (q_cv8_I Tryz.underlying5 Tryz.underlying3 rfl (Nat.le_trans (Nat.le_of_lt (BitVec.isLt _)) (by decide))) rfl fun a hA => ?_
 refine asg hA fun a hA => ?_
 refine wpList_nil ?_
 refine hK4 _ _ ?_
 clear hK4
 replace hA := hA.s4 6 5 4 1
 refine wp_seq_k fun K5 hK5 => ?_
 refine wp_seq_k fun K6 hK6 => ?_
 refine wp_region_lit ?_
 refine mv hA fun a hA => ?_
 refine sq hA (q_remI (n := 8) rfl rfl (by omega)) rfl fun a hA => ?_
 refine asg hA fun a hA => ?_
 refine wpList_nil ?_
 refine hK6 _ _ ?_
 clear hK6
 replace hA := hA.s4 7 6 5 4
 refine wp_block ?_
 refine wp_loop_ghost (fun gm a w => ∃ x : Nat, ∃ k : Nat, At 33 [(7, I k), (6, I x), (5, (I 0)), (4, (I 0))] a ∧ HS [] w0 w ([]) ∧ (k ≤ 7) ∧ (i % 8 ≤ k) ∧ (x < 256) ∧ (x = (l.getD (i / 8) 0#8).toNat / 2 ^ (k - i % 8)) ∧ gm = 7 - k) (7 - (i % 8)) ⟨(l.getD (i / 8) 0#8).toNat, i % 8, hA.sub ⟨rfl, rfl, rfl, rfl, trivial⟩, hH, by omega, by omega, by omega, by (rw [Nat.sub_self, Nat.pow_zero, Nat.div_one]), rfl⟩ ?_
 clear hA hH
 rintro gm a w ⟨x, k, hA, hH, hk, hk0, hxb, hx, rfl⟩
 refine wp_seq_k fun K7 hK7 => ?_
 refine wp_seq_k fun K8 hK8 => ?_
 refine wp_region_lit ?_
 refine mv hA fun a hA => ?_
 refine sq hA (q_lssI (n := 7) rfl rfl) rfl fun a hA => ?_
 refine wpList_nil ?_
 refine hK8 _ _ ?_
 clear hK8
 refine cond_d hA rfl (fun hc26 => ?_) (fun hc26 => ?_)
 ·skip
  refine wp_skip ?_
  refine hK7 _ _ ?_
  clear hK7
  refine wp_seq_k fun K9 hK9 => ?_
  refine wp_block ?_
  refine wp_region_lit ?_
  refine mv hA fun a hA => ?_
  refine sq hA (q_quoI (n := 2) rfl rfl (by omega)) rfl fun a hA => ?_
  refine asg hA fun a hA => ?_
  refine wpList_nil ?_
  refine block_normal ?_
  refine hK9 _ _ ?_
  clear hK9
  refine wp_region_lit ?_
  refine mv hA fun a hA => ?_
  refine sq hA (q_addI (n := 1) rfl rfl (by omega)) rfl fun a hA => ?_
  refine asg hA fun a hA => ?_
  refine wpList_nil ?_
  exact ⟨_, by omega, x / 2, k + 1, hA.sub ⟨rfl, rfl, rfl, rfl, trivial⟩, hH, by omega, by omega, by omega, by (rw [hx, Nat.div_div_eq_div_mul, ← Nat.pow_succ]; congr 2; omega), rfl⟩
 ·skip
  obtain rfl : k = 7 := by omega
  refine wp_exit ?_
  refine then_exit ?_
  refine then_exit ?_
  refine exit_here ?_
  refine hK5 _ _ ?_
  clear hK5
  replace hA := hA.s3 6 5 4
  refine wp_seq_k fun K10 hK10 => ?_
  refine wp_region_lit ?_
  refine mv hA fun a hA => ?_
  refine sq hA (q_remI (n := 2) rfl rfl (by omega)) rfl fun a hA => ?_
  refine asg hA fun a hA => ?_
  refine asg hA fun a hA => ?_
  refine wpList_nil ?_
  refine hK10 _ _ ?_
  clear hK10
  replace hA := hA.s2 5 4
  refine wp_ret ?_
  refine post_ret hA (res_2 rfl hA rfl rfl) ?_
  exact ⟨_, rfl, by rw [hx]; rfl, hH⟩

theorem sk_any {w0 : World} {lv : Nat} (hg : Gl lv w0) (s : Bs) (i b : Nat) (hs : s.length = 32) (hi : i ≤ 1000000) (hb : b ≤ 1) :
    Calls Tryz.prog 107 #[(.agg ((s).map B8).toArray), I i, I b] w0 (Ret fun r w' => r = .agg ((skV s (2 * i + b)).map B8).toArray ∧ HS [] w0 w' []) := by
 have hH := HS.start w0
 refine start (n := 13) (E := [(0, _), (1, _), (2, _)]) Tryz.func107 rfl rfl rfl (args_look rfl) ?_
 intro a hA
 refine wp_seq_k fun K1 hK1 => ?_
 refine wp_region_lit ?_
 refine sl hA (lo_boxA hH rfl) rfl ?_
 clear hH; rintro _ w ⟨b_t3, rfl, hH⟩ a hA
 refine sl hA (lo_allocA hH ti25) rfl ?_
 clear hH; rintro _ w ⟨b_t6, rfl, hH⟩ a hA
 refine wpList_nil ?_
 refine hK1 _ _ ?_
 clear hK1
 replace hA := hA.s4 6 3 1 2
 refine wp_seq_k fun K2 hK2 => ?_
 refine wp_region_lit ?_
 refine sq hA (q_loadW hH 1 rfl Tryz.underlying151 rfl ti151 rfl (by first | omega | (simp; done) | (simp; omega) | (rw [List.length_map]; assumption) | assumption | rfl | (simp [*]; done) | (simp [*]; omega))) rfl fun a hA => ?_
 refine mv hA fun a hA => ?_
 refine sq hA (q_mulI (m := 2) rfl rfl (by omega)) rfl fun a hA => ?_
 refine mv hA fun a hA => ?_
 refine sq hA (q_addI rfl rfl (by omega)) rfl fun a hA => ?_
 rw [show (2 * (i : Int) + (b : Int)) = ((2 * i + b : Nat) : Int) by omega] at hA
 refine sl hA (lo_call fn49 rfl (seed_any (hg.mono0 hH) _ _ _ (by first | assumption | (rw [List.length_map]; assumption) | rfl | exact sha_length _ | (simp; done) | (simp [*]; done) | omega) (by decide))) rfl ?_
 rintro _ w ⟨rfl, hC⟩ a hA
 replace hH := HS.call0 hH hC
 clear hC
 refine s0 hA (lo_storeAm hH ti25 rfl rfl (by first | omega | (simp; done) | (simp; omega) | (rw [List.length_map]; assumption) | assumption | rfl | (simp [*]; done) | (simp [*]; omega)) (by first | omega | (simp; done) | (simp; omega) | (rw [List.length_map]; assumption) | assumption | rfl | (simp [*]; done) | (simp [*]; omega)) (one_B8 _)) ?_
 clear hH; rintro _ w hH
 refine wpList_nil ?_
 refine hK2 _ _ ?_
 clear hK2
 replace hA := hA.s1 6
 refine wp_ret ?_
 refine post_ret hA (res_c rfl hA rfl (resW hH 0 rfl Tryz.underlying25 rfl ti25 (by first | assumption | (rw [List.length_map]; assumption) | rfl | exact sha_length _ | (simp; done) | (simp [*]; done) | omega))) ?_
 replace hH := hH.pick [] (Hs' := []) rfl
 exact ⟨_, rfl, rfl, hH⟩

theorem refsk_any {w0 : World} {lv : Nat} (hg : Gl (lv + 2) w0) (s : Bs) (i b : Nat) (hs : s.length = 32) (hi : i ≤ 1000000) (hb : b ≤ 1) :
    Calls Tryz.prog 96 #[(.agg ((s).map B8).toArray), I i, I b] w0 (Ret fun r w' => r = .agg ((skV s (2 * i + b)).map B8).toArray ∧ HS [] w0 w' []) := by
 have hH := HS.start w0
 refine start (n := 13) (E := [(0, _), (1, _), (2, _)]) Tryz.func96 rfl rfl rfl (args_look rfl) ?_
 intro a hA
 refine wp_seq_k fun K1 hK1 => ?_
 refine wp_region_lit ?_
 refine sl hA (lo_boxA hH rfl) rfl ?_
 clear hH; rintro _ w ⟨b_t3, rfl, hH⟩ a hA
 refine sl hA (lo_allocA hH ti25) rfl ?_
 clear hH; rintro _ w ⟨b_t6, rfl, hH⟩ a hA
 refine wpList_nil ?_
 refine hK1 _ _ ?_
 clear hK1
 replace hA := hA.s4 6 3 1 2
 refine wp_seq_k fun K2 hK2 => ?_
 refine wp_region_lit ?_
 refine sq hA (q_loadW hH 1 rfl Tryz.underlying25 rfl ti25 rfl (by first | omega | (simp; done) | (simp; omega) | (rw [List.length_map]; assumption) | assumption | rfl | (simp [*]; done) | (simp [*]; omega))) rfl fun a hA => ?_
 refine mv hA fun a hA => ?_
 refine sq hA (q_mulI (m := 2) rfl rfl (by omega)) rfl fun a hA => ?_
 refine mv hA fun a hA => ?_
 refine sq hA (q_addI rfl rfl (by omega)) rfl fun a hA => ?_
 rw [show (2 * (i : Int) + (b : Int)) = ((2 * i + b : Nat) : Int) by omega] at hA
 refine sl hA (lo_call fn56 rfl (refseed_any (hg.mono0 hH) _ _ _ (by first | assumption | (rw [List.length_map]; assumption) | rfl | exact sha_length _ | (simp; done) | (simp [*]; done) | omega) (by decide))) rfl ?_
 rintro _ w ⟨rfl, hC⟩ a hA
 replace hH := HS.call0 hH hC
 clear hC
 refine s0 hA (lo_storeAm hH ti25 rfl rfl (by first | omega | (simp; done) | (simp; omega) | (rw [List.length_map]; assumption) | assumption | rfl | (simp [*]; done) | (simp [*]; omega)) (by first | omega | (simp; done) | (simp; omega) | (rw [List.length_map]; assumption) | assumption | rfl | (simp [*]; done) | (simp [*]; omega)) (one_B8 _)) ?_
 clear hH; rintro _ w hH
 refine wpList_nil ?_
 refine hK2 _ _ ?_
 clear hK2
 replace hA := hA.s1 6
 refine wp_ret ?_
 refine post_ret hA (res_c rfl hA rfl (resW hH 0 rfl Tryz.underlying25 rfl ti25 (by first | assumption | (rw [List.length_map]; assumption) | rfl | exact sha_length _ | (simp; done) | (simp [*]; done) | omega))) ?_
 replace hH := hH.pick [] (Hs' := []) rfl
 exact ⟨_, rfl, rfl, hH⟩

theorem pk_any {w0 : World} {lv : Nat} (hg : Gl lv w0) (s : Bs) (i b : Nat) (hs : s.length = 32) (hi : i ≤ 1000000) (hb : b ≤ 1) :
    Calls Tryz.prog 90 #[(.agg ((s).map B8).toArray), I i, I b] w0 (Ret fun r w' => r = .agg ((pkV s (2 * i + b)).map B8).toArray ∧ HS [] w0 w' []) := by
 have hH := HS.start w0
 refine start (n := 14) (E := [(0, _), (1, _), (2, _)]) Tryz.func90 rfl rfl rfl (args_look rfl) ?_
 intro a hA
 have hkl := skV_length s (2 * i + b)
 refine wp_seq_k fun K1 hK1 => ?_
 refine wp_region_lit ?_
 refine sl hA (lo_boxA hH rfl) rfl ?_
 clear hH; rintro _ w ⟨b_t3, rfl, hH⟩ a hA
 refine sl hA (lo_allocA hH ti25) rfl ?_
 clear hH; rintro _ w ⟨b_t6, rfl, hH⟩ a hA
 refine wpList_nil ?_
 refine hK1 _ _ ?_
 clear hK1
 replace hA := hA.s4 6 3 1 2
 refine wp_seq_k fun K2 hK2 => ?_
 refine wp_region_lit ?_
 refine sq hA (q_loadW hH 1 rfl Tryz.underlying151 rfl ti151 rfl (by first | omega | (simp; done) | (simp; omega) | (rw [List.length_map]; assumption) | assumption | rfl | (simp [*]; done) | (simp [*]; omega))) rfl fun a hA => ?_
 refine mv hA fun a hA => ?_
 refine mv hA fun a hA => ?_
 refine sl hA (lo_call fn107 rfl (sk_any (hg.mono0 hH) _ _ _ (by first | assumption | (rw [List.length_map]; assumption) | rfl | exact sha_length _ | (simp; done) | (simp [*]; done) | omega) (by first | omega | (simp; done) | (simp; omega)) (by first | omega | (simp; done) | (simp; omega)))) rfl ?_
 rintro _ w ⟨rfl, hC⟩ a hA
 replace hH := HS.call0 hH hC
 clear hC
 refine sl hA (lo_allocA hH ti25) rfl ?_
 clear hH; rintro _ w ⟨b_t7, rfl, hH⟩ a hA
 refine s0 hA (lo_storeAm hH ti25 rfl rfl (by first | omega | (simp; done) | (simp; omega) | (rw [List.length_map]; assumption) | assumption | rfl | (simp [*]; done) | (simp [*]; omega)) (by first | omega | (simp; done) | (simp; omega) | (rw [List.length_map]; assumption) | assumption | rfl | (simp [*]; done) | (simp [*]; omega)) (one_B8 _)) ?_
 clear hH; rintro _ w hH
 refine wpList_nil ?_
 refine hK2 _ _ ?_
 clear hK2
 replace hA := hA.s2 7 6
 refine wp_seq_k fun K3 hK3 => ?_
 refine wp_region_lit ?_
 refine sq hA (q_sliceAll Tryz.underlying25 ti5 rfl) rfl fun a hA => ?_
 refine sl hA (lo_call fn113 rfl (sum_any (hg.mono0 hH) _ _ (HS.byB hH 0 rfl (by first | assumption | (rw [List.length_map]; assumption) | rfl | exact sha_length _ | (simp; done) | (simp [*]; done) | omega)) (by first | omega | (simp; done) | (simp; omega)))) rfl ?_
 rintro _ w ⟨rfl, hC⟩ a hA
 replace hH := HS.call0 hH hC
 clear hC
 replace hH := hH.pick [1, 0, 2] (Hs' := [_, _, _]) rfl
 refine s0 hA (lo_storeAm hH ti25 rfl rfl (by first | omega | (simp; done) | (simp; omega) | (rw [List.length_map]; assumption) | assumption | rfl | (simp [*]; done) | (simp [*]; omega)) (by first | omega | (simp; done) | (simp; omega) | (rw [List.length_map]; assumption) | assumption | rfl | (simp [*]; done) | (simp [*]; omega)) (one_B8 _)) ?_
 clear hH; rintro _ w hH
 refine wpList_nil ?_
 refine hK3 _ _ ?_
 clear hK3
 replace hA := hA.s1 6
 refine wp_ret ?_
 refine post_ret hA (res_c rfl hA rfl (resW hH 0 rfl Tryz.underlying25 rfl ti25 (by first | assumption | (rw [List.length_map]; assumption) | rfl | exact sha_length _ | (simp; done) | (simp [*]; done) | omega))) ?_
 replace hH := hH.pick [] (Hs' := []) rfl
 exact ⟨_, rfl, rfl, hH⟩

theorem refsum5_any {w0 : World} {lv : Nat} (hg : Gl (lv + 2) w0) (d : Bs) (hd : d.length = 32) :
    Calls Tryz.prog 95 #[(.agg ((d).map B8).toArray)] w0 (Ret fun r w' => r = .agg ((sha d).map B8).toArray ∧ HS [] w0 w' []) := by
 have hH := HS.start w0
 refine start (n := 6) (E := [(0, _)]) Tryz.func95 rfl rfl rfl (args_look rfl) ?_
 intro a hA
 refine wp_seq_k fun K1 hK1 => ?_
 refine wp_region_lit ?_
 refine sl hA (lo_boxA hH rfl) rfl ?_
 clear hH; rintro _ w ⟨b_t1, rfl, hH⟩ a hA
 refine sl hA (lo_allocA hH ti25) rfl ?_
 clear hH; rintro _ w ⟨b_t2, rfl, hH⟩ a hA
 refine wpList_nil ?_
 refine hK1 _ _ ?_
 clear hK1
 replace hA := hA.s2 2 1
 refine wp_seq_k fun K2 hK2 => ?_
 refine wp_region_lit ?_
 refine sq hA (q_loadW hH 1 rfl Tryz.underlying25 rfl ti25 rfl (by first | omega | (simp; done) | (simp; omega) | (rw [List.length_map]; assumption) | assumption | rfl | (simp [*]; done) | (simp [*]; omega))) rfl fun a hA => ?_
 refine sl hA (lo_call fn60 rfl (refdigest_any _ (by first | assumption | (rw [List.length_map]; assumption) | rfl | exact sha_length _ | (simp; done) | (simp [*]; done) | omega))) rfl ?_
 rintro _ w ⟨v_t4, N_t4, rfl, hO_t4, hC⟩ a hA
 replace hH := HS.call0 hH hC
 clear hC
 refine sl hA (lo_call fn76 rfl (refsum_any (hg.mono0 hH) _ _ (Own.rd0 hO_t4 hH 0 rfl) (by first | omega | (simp; done) | (simp; omega)))) rfl ?_
 rintro _ w ⟨rfl, hC⟩ a hA
 replace hH := HS.call0 hH hC
 clear hC
 replace hH := hH.pick [1, 0, 2] (Hs' := [_, _, _]) rfl
 refine s0 hA (lo_storeAm hH ti25 rfl rfl (by first | omega | (simp; done) | (simp; omega) | (rw [List.length_map]; assumption) | assumption | rfl | (simp [*]; done) | (simp [*]; omega)) (by first | omega | (simp; done) | (simp; omega) | (rw [List.length_map]; assumption) | assumption | rfl | (simp [*]; done) | (simp [*]; omega)) (one_B8 _)) ?_
 clear hH; rintro _ w hH
 refine wpList_nil ?_
 refine hK2 _ _ ?_
 clear hK2
 replace hA := hA.s1 2
 refine wp_ret ?_
 refine post_ret hA (res_c rfl hA rfl (resW hH 0 rfl Tryz.underlying25 rfl ti25 (by first | assumption | (rw [List.length_map]; assumption) | rfl | exact sha_length _ | (simp; done) | (simp [*]; done) | omega))) ?_
 replace hH := hH.pick [] (Hs' := []) rfl
 exact ⟨_, rfl, rfl, hH⟩

theorem right5_any {w0 : World} (n : Int) :
    Calls Tryz.prog 89 #[I n] w0 (Ret fun r w' => r = .bool (decide (R5 n)) ∧ HS [] w0 w' []) := by
 have hH := HS.start w0
 refine start (n := 9) (E := [(0, _)]) Tryz.func89 rfl rfl rfl (args_look rfl) ?_
 intro a hA
 refine wp_seq_k fun K1 hK1 => ?_
 refine wp_region_lit ?_
 refine asg hA fun a hA => ?_
 refine wpList_nil ?_
 refine hK1 _ _ ?_
 clear hK1
 refine wp_seq_k fun K2 hK2 => ?_
 refine wp_region_lit ?_
 refine mv hA fun a hA => ?_
 refine sq hA (q_geqI (n := 1) rfl rfl) rfl fun a hA => ?_
 refine hA.spl (fun hs4 hA => ?_) (fun hs4 hA => ?_)
 ·skip
  refine mv hA fun a hA => ?_
  refine gq hA rfl rfl (q_move rfl) rfl fun a hA => ?_
  refine gq hA rfl rfl (q_leqI (n := 256) rfl rfl) rfl fun a hA => ?_
  refine sq hA (q_pick_t rfl rfl) rfl fun a hA => ?_
  refine asg hA fun a hA => ?_
  refine wpList_nil ?_
  refine hK2 _ _ ?_
  clear hK2
  replace hA := hA.s1 2
  refine wp_ret ?_
  refine post_ret hA (res_1 rfl hA rfl) ?_
  exact ⟨_, rfl, by simp [R5, hs4], hH⟩
 ·skip
  refine mv hA fun a hA => ?_
  refine gs hA rfl rfl rfl rfl fun a hA => ?_
  refine gs hA rfl rfl rfl rfl fun a hA => ?_
  refine sq hA (q_pick_f rfl rfl) rfl fun a hA => ?_
  refine asg hA fun a hA => ?_
  refine wpList_nil ?_
  refine hK2 _ _ ?_
  clear hK2
  replace hA := hA.s1 2
  refine wp_ret ?_
  refine post_ret hA (res_1 rfl hA rfl) ?_
  exact ⟨_, rfl, by simp [R5, hs4], hH⟩

theorem refright5_any {w0 : World} (n : Int) :
    Calls Tryz.prog 94 #[I n] w0 (Ret fun r w' => r = .bool (decide (R5 n)) ∧ HS [] w0 w' []) := by
 have hH := HS.start w0
 refine start (n := 9) (E := [(0, _)]) Tryz.func94 rfl rfl rfl (args_look rfl) ?_
 intro a hA
 refine wp_seq_k fun K1 hK1 => ?_
 refine wp_region_lit ?_
 refine asg hA fun a hA => ?_
 refine wpList_nil ?_
 refine hK1 _ _ ?_
 clear hK1
 refine wp_seq_k fun K2 hK2 => ?_
 refine wp_region_lit ?_
 refine mv hA fun a hA => ?_
 refine sq hA (q_geqI (n := 1) rfl rfl) rfl fun a hA => ?_
 refine hA.spl (fun hs4 hA => ?_) (fun hs4 hA => ?_)
 ·skip
  refine mv hA fun a hA => ?_
  refine gq hA rfl rfl (q_move rfl) rfl fun a hA => ?_
  refine gq hA rfl rfl (q_leqI (n := 256) rfl rfl) rfl fun a hA => ?_
  refine sq hA (q_pick_t rfl rfl) rfl fun a hA => ?_
  refine asg hA fun a hA => ?_
  refine wpList_nil ?_
  refine hK2 _ _ ?_
  clear hK2
  replace hA := hA.s1 2
  refine wp_ret ?_
  refine post_ret hA (res_1 rfl hA rfl) ?_
  exact ⟨_, rfl, by simp [R5, hs4], hH⟩
 ·skip
  refine mv hA fun a hA => ?_
  refine gs hA rfl rfl rfl rfl fun a hA => ?_
  refine gs hA rfl rfl rfl rfl fun a hA => ?_
  refine sq hA (q_pick_f rfl rfl) rfl fun a hA => ?_
  refine asg hA fun a hA => ?_
  refine wpList_nil ?_
  refine hK2 _ _ ?_
  clear hK2
  replace hA := hA.s1 2
  refine wp_ret ?_
  refine post_ret hA (res_1 rfl hA rfl) ?_
  exact ⟨_, rfl, by simp [R5, hs4], hH⟩


theorem refbt_any {w0 : World} {lv : Nat} (hg : Gl (lv + 2) w0) (v : Value) (l : Bs) (i : Nat) (hr : By [] w0 v l) (hl : l.length ≤ 1048576) (hi : i < 256) :
    Calls Tryz.prog 111 #[v, I i] w0 (Ret fun r w' => r = I (btV l i) ∧ HS [] w0 w' []) := by
 have hH := HS.start w0
 refine start (n := 16) (E := [(0, _), (1, _)]) Tryz.func111 rfl rfl rfl (args_look rfl) ?_
 intro a hA
 have hsl : (sha l).length = 32 := by simp
 refine wp_seq_k fun K1 hK1 => ?_
 refine wp_region_lit ?_
 refine asg hA fun a hA => ?_
 refine wpList_nil ?_
 refine hK1 _ _ ?_
 clear hK1
 refine wp_seq_k fun K2 hK2 => ?_
 refine wp_region_lit ?_
 refine mv hA fun a hA => ?_
 refine sl hA (lo_call fn76 rfl (refsum_any (hg.mono0 hH) _ _ (hH.rd hr) (by first | omega | (simp; done) | (simp; omega)))) rfl ?_
 rintro _ w ⟨rfl, hC⟩ a hA
 replace hH := HS.call0 hH hC
 clear hC
 refine sl hA (lo_call fn60 rfl (refdigest_any _ (by first | assumption | (rw [List.length_map]; assumption) | rfl | exact sha_length _ | (simp; done) | (simp [*]; done) | omega))) rfl ?_
 rintro _ w ⟨v_t10, N_t10, rfl, hO_t10, hC⟩ a hA
 replace hH := HS.call0 hH hC
 clear hC
 refine mv hA fun a hA => ?_
 refine sl hA (lo_call fn120 rfl (refbit_any _ _ _ (Own.rd0 hO_t10 hH 0 rfl) (by first | omega | (simp; done) | (simp; omega)) (by first | omega | (simp; done) | (simp; omega)))) rfl ?_
 rintro _ w ⟨rfl, hC⟩ a hA
 replace hH := HS.call0 hH hC
 clear hC
 refine mv hA fun a hA => ?_
 refine sq hA (q_extract rfl rfl) rfl fun a hA => ?_
 refine sq hA (q_extract rfl rfl) rfl fun a hA => ?_
 refine asg hA fun a hA => ?_
 refine asg hA fun a hA => ?_
 refine wpList_nil ?_
 refine hK2 _ _ ?_
 clear hK2
 replace hA := hA.s2 5 4
 refine wp_seq_k fun K3 hK3 => ?_
 refine wp_region_lit ?_
 refine mv hA fun a hA => ?_
 refine asg hA fun a hA => ?_
 refine wpList_nil ?_
 refine hK3 _ _ ?_
 clear hK3
 replace hA := hA.s1 4
 refine wp_ret ?_
 refine post_ret hA (res_1 rfl hA rfl) ?_
 replace hH := hH.pick [] (Hs' := []) rfl
 exact ⟨_, rfl, rfl, hH⟩

theorem chosen_any {w0 : World} {lv : Nat} (hg : Gl lv w0) (v : Value) (l : Bs) (n : Nat) (hr : By [] w0 v l) (hl : l.length ≤ 1048576) (hn : n ≤ 256) :
    Calls Tryz.prog 106 #[v, I n] w0 (Ret fun r w' => ∃ v' N, v' = r ∧ Ow In 3 v' ((List.range n).map (btV l)) N ∧ HS [] w0 w' [N]) := by
 have hH := HS.start w0
 refine start (n := 28) (E := [(0, _), (1, _)]) Tryz.func106 rfl rfl rfl (args_look rfl) ?_
 intro a hA
 have hsl : (sha l).length = 32 := by simp
 refine wp_seq_k fun K1 hK1 => ?_
 refine wp_region_lit ?_
 refine asg hA fun a hA => ?_
 refine wpList_nil ?_
 refine hK1 _ _ ?_
 clear hK1
 refine wp_seq_k fun K2 hK2 => ?_
 refine wp_region_lit ?_
 refine mv hA fun a hA => ?_
 refine sl hA (lo_call fn113 rfl (sum_any (hg.mono0 hH) _ _ (hH.rd hr) (by first | omega | (simp; done) | (simp; omega)))) rfl ?_
 rintro _ w ⟨rfl, hC⟩ a hA
 replace hH := HS.call0 hH hC
 clear hC
 refine sl hA (lo_allocA hH ti25) rfl ?_
 clear hH; rintro _ w ⟨b_t5, rfl, hH⟩ a hA
 refine s0 hA (lo_storeAm hH ti25 rfl rfl (by first | omega | (simp; done) | (simp; omega) | (rw [List.length_map]; assumption) | assumption | rfl | (simp [*]; done) | (simp [*]; omega)) (by first | omega | (simp; done) | (simp; omega) | (rw [List.length_map]; assumption) | assumption | rfl | (simp [*]; done) | (simp [*]; omega)) (one_B8 _)) ?_
 clear hH; rintro _ w hH
 refine wpList_nil ?_
 refine hK2 _ _ ?_
 clear hK2
 replace hA := hA.s3 5 4 1
 refine wp_seq_k fun K3 hK3 => ?_
 refine wp_region_lit ?_
 refine mv hA fun a hA => ?_
 refine sl hA (lo_make (n := n) hH Tryz.underlying165 ti3 rfl rfl rfl (rfl) (by omega) (by omega)) rfl ?_
 clear hH; rintro v_t11 w ⟨N_t11, hO_t11, hH⟩ a hA
 replace hO_t11 : Ow In 3 v_t11 (chTo l n 0) N_t11 := by simpa [Ow, In, chTo, Value.cells, flat_replicate] using hO_t11
 refine asg hA fun a hA => ?_
 refine wpList_nil ?_
 refine hK3 _ _ ?_
 clear hK3
 replace hA := hA.s3 6 5 4
 refine wp_seq_k fun K4 hK4 => ?_
 refine wp_seq_k fun K5 hK5 => ?_
 refine wp_region_lit ?_
 refine mv hA fun a hA => ?_
 refine sq hA (q_len Tryz.underlying165 rfl (Own.shp hO_t11)) rfl fun a hA => ?_
 rw [chTo_len l (Nat.zero_le n)] at hA
 refine mv hA fun a hA => ?_
 refine wpList_nil ?_
 refine hK5 _ _ ?_
 clear hK5
 replace hA := hA.s5 14 13 6 5 4
 refine wp_block ?_
 refine wp_loop_ghost (fun gm a w => ∃ i : Nat, ∃ N_t11 : Hl, At 28 [(14, I i), (13, I n), (6, v_t11), (5, (.pointer (some ⟨b_t5, 0, none⟩))), (4, (.slice none 0 0))] a ∧ HS [] w0 w ([N_t11, [(b_t5, Obj.cells ((sha l).map B8).toArray 25 (0, 0))]]) ∧ (i ≤ n) ∧ (Ow In 3 v_t11 (chTo l n i) N_t11) ∧ gm = n - i) (n - (0)) ⟨0, N_t11, hA.sub ⟨rfl, rfl, rfl, rfl, rfl, trivial⟩, hH, by omega, by exact hO_t11, rfl⟩ ?_
 clear hA hH
 rintro gm a w ⟨i, N_t11, hA, hH, hi, hO_t11, rfl⟩
 refine wp_seq_k fun K6 hK6 => ?_
 refine wp_region_lit ?_
 refine sq hA (q_lssI rfl rfl) rfl fun a hA => ?_
 refine wpList_nil ?_
 refine hK6 _ _ ?_
 clear hK6
 refine wp_seq_k fun K7 hK7 => ?_
 refine cond_d hA rfl (fun hc15 => ?_) (fun hc15 => ?_)
 ·skip
  refine wp_skip ?_
  refine hK7 _ _ ?_
  clear hK7
  refine wp_seq_k fun K8 hK8 => ?_
  refine wp_block ?_
  refine wp_seq_k fun K9 hK9 => ?_
  refine wp_region_lit ?_
  refine mv hA fun a hA => ?_
  refine asg hA fun a hA => ?_
  refine wpList_nil ?_
  refine hK9 _ _ ?_
  clear hK9
  refine wp_region_lit ?_
  refine mv hA fun a hA => ?_
  refine mv hA fun a hA => ?_
  refine sq hA (q_sliceAll Tryz.underlying25 ti5 rfl) rfl fun a hA => ?_
  refine mv hA fun a hA => ?_
  refine sl hA (lo_call fn117 rfl (bit_any _ _ _ (HS.byB hH 1 rfl (by first | assumption | (rw [List.length_map]; assumption) | rfl | exact sha_length _ | (simp; done) | (simp [*]; done) | omega)) (by first | omega | (simp; done) | (simp; omega)) (by first | omega | (simp; done) | (simp; omega)))) rfl ?_
  rintro _ w ⟨rfl, hC⟩ a hA
  replace hH := HS.call0 hH hC
  clear hC
  refine mv hA fun a hA => ?_
  refine sq hA (q_extract rfl rfl) rfl fun a hA => ?_
  refine sq hA (q_extract rfl rfl) rfl fun a hA => ?_
  refine sq hA (q_idx1 (i) Tryz.underlying165 ti3 rfl rfl (by first | omega | rfl) (Own.shp hO_t11) (by rw [chTo_len l hi]; omega)) rfl fun a hA => ?_
  refine s0 hA (lo_storeO hH hO_t11 ti3 rfl rfl (by rw [chTo_len l hi]; omega) rfl) ?_
  clear hH; rintro _ w ⟨N_t11, hO_t11, hH⟩
  refine wpList_nil ?_
  refine block_normal ?_
  refine hK8 _ _ ?_
  clear hK8
  replace hA := hA.sub (E' := [(25, _), (23, _), (17, _), (22, _), (21, _), (20, _), (19, _), (18, _), (7, _), (16, _), (15, _), (14, _), (13, _), (6, _), (5, _), (4, _)]) ⟨rfl, rfl, rfl, rfl, rfl, rfl, rfl, rfl, rfl, rfl, rfl, rfl, rfl, rfl, rfl, rfl, trivial⟩
  refine wp_region_lit ?_
  refine sq hA (q_addI (n := 1) rfl rfl (by omega)) rfl fun a hA => ?_
  refine mv hA fun a hA => ?_
  refine wpList_nil ?_
  exact ⟨_, by omega, i + 1, N_t11, hA.sub ⟨rfl, rfl, rfl, rfl, rfl, trivial⟩, hH, by omega, by (rw [← chTo_set l (by omega)]; exact hO_t11), rfl⟩
 ·skip
  obtain rfl : i = n := by omega
  rw [chTo_end] at hO_t11
  refine wp_exit ?_
  refine then_exit ?_
  refine then_exit ?_
  refine exit_here ?_
  refine hK4 _ _ ?_
  clear hK4
  replace hA := hA.s2 6 4
  refine wp_seq_k fun K10 hK10 => ?_
  refine wp_region_lit ?_
  refine mv hA fun a hA => ?_
  refine asg hA fun a hA => ?_
  refine wpList_nil ?_
  refine hK10 _ _ ?_
  clear hK10
  replace hA := hA.s1 4
  refine wp_ret ?_
  refine post_ret hA (res_1 rfl hA rfl) ?_
  replace hH := hH.pick [0] (Hs' := [_]) rfl
  exact ⟨_, rfl, v_t11, N_t11, rfl, hO_t11, hH⟩

theorem oroot_any {w0 : World} {lv : Nat} (hg : Gl lv w0) (v : Value) (ls : List Bs) (hd : Dg ls) (hr : RdD [] w0 v ls) (hl : ls.length ≤ 4096) :
    Calls Tryz.prog 51 #[v] w0 (Ret fun r w' => r = .agg ((rootO ls).map B8).toArray ∧ HS [] w0 w' []) := by
 have hH := HS.start w0
 refine start (n := 25) (E := [(0, _)]) Tryz.func51 rfl rfl rfl (args_look rfl) ?_
 intro a hA
 refine wp_seq_k fun K1 hK1 => ?_
 refine wp_region_lit ?_
 refine sl hA (lo_allocA hH ti25) rfl ?_
 clear hH; rintro _ w ⟨b_t2, rfl, hH⟩ a hA
 refine wpList_nil ?_
 refine hK1 _ _ ?_
 clear hK1
 refine wp_seq_k fun K2 hK2 => ?_
 refine wp_region_lit ?_
 refine sl hA (lo_call fn43 rfl (new_any (hg.mono0 hH))) rfl ?_
 rintro _ w ⟨b_t7, N_t7, rfl, hO_t7, hC⟩ a hA
 replace hH := HS.call0 hH hC
 clear hC
 refine asg hA fun a hA => ?_
 refine wpList_nil ?_
 refine hK2 _ _ ?_
 clear hK2
 replace hA := hA.s3 3 2 0
 refine wp_seq_k fun K3 hK3 => ?_
 refine wp_region_lit ?_
 refine mv hA fun a hA => ?_
 refine sq hA (q_makeFunc rfl rfl) rfl fun a hA => ?_
 refine asg hA fun a hA => ?_
 refine wpList_nil ?_
 refine hK3 _ _ ?_
 clear hK3
 replace hA := hA.s4 4 3 2 0
 refine wp_seq_k fun K4 hK4 => ?_
 refine wp_region_lit ?_
 refine mv hA fun a hA => ?_
 refine sl hA (lo_bs (f := B8) (e := 5) ([2#8]) hH rfl rfl (fun w => by kernel_rfl)) rfl ?_
 clear hH; rintro v_t11 w ⟨N_t11, hO_t11, hH⟩ a hA
 replace hH := hH.pick [1, 0, 2] (Hs' := [_, _, _]) rfl
 refine sl hA (lo_callv (first := _) (cap := _) fn44 rfl rfl (write_any (hg.mono hH NG.nil) (doms [N_t7]) (hg.ng NG.nil hH) b_t7 ([]) ([2#8]) _ N_t7 hO_t7 (Own.rdM hO_t11 (Ns1 := [_]) hH 0 rfl) (by first | (simp; done) | (simp; omega) | omega) (HS.handed (Ns1 := [_]) hH))) rfl ?_
 rintro _ w ⟨rfl, N_t7, hO_t7, hC⟩ a hA
 replace hH := HS.call (Ns1 := [_]) hH hC
 clear hC
 refine wpList_nil ?_
 refine hK4 _ _ ?_
 clear hK4
 replace hA := hA.s4 4 3 2 0
 refine wp_seq_k fun K5 hK5 => ?_
 refine wp_seq_k fun K6 hK6 => ?_
 refine wp_region_lit ?_
 refine mv hA fun a hA => ?_
 refine sq hA (q_len Tryz.underlying69 rfl (Rd.shp hr)) rfl fun a hA => ?_
 refine mv hA fun a hA => ?_
 refine wpList_nil ?_
 refine hK6 _ _ ?_
 clear hK6
 replace hA := hA.s6 15 14 13 4 3 2
 refine wp_block ?_
 replace hH := HS.fold [_] [_, _] hH
 obtain ⟨NR7, hNR7, hH⟩ := hH
 refine wp_loop_ghost (fun gm a w => ∃ k : Nat, ∃ N_t7 : Hl, At 25 [(15, I k), (14, I ls.length), (13, v), (4, (.func (.func 44) #[.pointer (some ⟨b_t7, 0, none⟩)] #[])), (3, (.pointer (some ⟨b_t7, 0, none⟩))), (2, (.pointer (some ⟨b_t2, 0, none⟩)))] a ∧ HS [] w0 w ([N_t7, NR7]) ∧ (k ≤ ls.length) ∧ (HashM 147 5 b_t7 (msgO ls k) N_t7) ∧ gm = ls.length - k) (ls.length - (0)) ⟨0, N_t7, hA.sub ⟨rfl, rfl, rfl, rfl, rfl, rfl, trivial⟩, hH, by omega, by exact hO_t7, rfl⟩ ?_
 clear hA hH
 rintro gm a w ⟨k, N_t7, hA, hH, hk, hO_t7, rfl⟩
 have hml := msgO_len hd hk
 refine wp_seq_k fun K8 hK8 => ?_
 refine wp_region_lit ?_
 refine sq hA (q_lssI rfl rfl) rfl fun a hA => ?_
 refine wpList_nil ?_
 refine hK8 _ _ ?_
 clear hK8
 refine wp_seq_k fun K9 hK9 => ?_
 refine cond_d hA rfl (fun hc16 => ?_) (fun hc16 => ?_)
 ·skip
  refine wp_skip ?_
  refine hK9 _ _ ?_
  clear hK9
  refine wp_seq_k fun K10 hK10 => ?_
  refine wp_block ?_
  refine wp_seq_k fun K11 hK11 => ?_
  refine wp_region_lit ?_
  refine sq hA (q_idxk (k) Tryz.underlying69 ti25 rfl rfl (by first | omega | rfl) (Rd.shp hr) (by first | omega | (simp; done) | (simp; omega) | (rw [List.length_map]; assumption) | assumption | rfl | (simp [*]; done) | (simp [*]; omega))) rfl fun a hA => ?_
  refine sq hA (q_loadRA (i := k) Tryz.underlying25 rfl ti25 rfl (hH.rd hr) (by first | omega | (simp; done) | (simp; omega) | (rw [List.length_map]; assumption) | assumption | rfl | (simp [*]; done) | (simp [*]; omega)) _ (dc_at (by assumption) (by first | omega | (simp; done) | (simp; omega) | (rw [List.length_map]; assumption) | assumption | rfl | (simp [*]; done) | (simp [*]; omega)))) rfl fun a hA => ?_
  have hkl := hd.getD (i := k) (by omega)
  refine sl hA (lo_allocA hH ti25) rfl ?_
  clear hH; rintro _ w ⟨b_t6, rfl, hH⟩ a hA
  refine s0 hA (lo_storeAm hH ti25 rfl rfl (by first | omega | (simp; done) | (simp; omega) | (rw [List.length_map]; assumption) | assumption | rfl | (simp [*]; done) | (simp [*]; omega)) (by first | omega | (simp; done) | (simp; omega) | (rw [List.length_map]; assumption) | assumption | rfl | (simp [*]; done) | (simp [*]; omega)) (one_B8 _)) ?_
  clear hH; rintro _ w hH
  refine wpList_nil ?_
  refine hK11 _ _ ?_
  clear hK11
  refine wp_region_lit ?_
  refine mv hA fun a hA => ?_
  refine sq hA (q_sliceAll Tryz.underlying25 ti5 rfl) rfl fun a hA => ?_
  replace hH := hH.pick [1, 0, 2] (Hs' := [_, _, _]) rfl
  refine sl hA (lo_callv (first := _) (cap := _) fn44 rfl rfl (write_any (hg.mono hH NG.nil) (doms [N_t7]) (hg.ng NG.nil hH) b_t7 (msgO ls k) (ls.getD k []) _ N_t7 hO_t7 (HS.byBM (Ns1 := [_]) hH 0 rfl (hd.getD (by omega))) (by first | (simp; done) | (simp; omega) | omega) (HS.handed (Ns1 := [_]) hH))) rfl ?_
  rintro _ w ⟨rfl, N_t7, hO_t7, hC⟩ a hA
  replace hH := HS.call (Ns1 := [_]) hH hC
  clear hC
  refine wpList_nil ?_
  refine block_normal ?_
  refine hK10 _ _ ?_
  clear hK10
  replace hA := hA.s12 20 19 6 18 17 16 15 14 13 4 3 2
  refine wp_region_lit ?_
  refine sq hA (q_addI (n := 1) rfl rfl (by omega)) rfl fun a hA => ?_
  refine mv hA fun a hA => ?_
  refine wpList_nil ?_
  replace hH := hH.pick [0, 2, 1] (Hs' := [_, _, _]) rfl
  replace hH := hH.pick [0, 1] (Hs' := [_, _]) rfl
  exact ⟨_, by omega, k + 1, N_t7, hA.sub ⟨rfl, rfl, rfl, rfl, rfl, rfl, trivial⟩, hH, by omega, by (rw [msgO_succ ls (by omega)]; exact hO_t7), rfl⟩
 ·skip
  obtain rfl : k = ls.length := by omega
  refine wp_exit ?_
  refine then_exit ?_
  replace hH := HS.unfold [_] hNR7 hH
  refine then_exit ?_
  refine exit_here ?_
  refine hK5 _ _ ?_
  clear hK5
  replace hA := hA.s2 3 2
  refine wp_seq_k fun K12 hK12 => ?_
  refine wp_region_lit ?_
  refine mv hA fun a hA => ?_
  refine sl hA (lo_call fn45 rfl (hsum_any (hg.mono0 hH) b_t7 (msgO ls ls.length) N_t7 hO_t7 (RO.of hH 0 rfl) (by omega))) rfl ?_
  rintro _ w ⟨rfl, hC⟩ a hA
  replace hH := HS.call0 hH hC
  clear hC
  replace hH := hH.pick [2, 0, 1] (Hs' := [_, _, _]) rfl
  refine s0 hA (lo_storeAm hH ti25 rfl rfl (by first | omega | (simp; done) | (simp; omega) | (rw [List.length_map]; assumption) | assumption | rfl | (simp [*]; done) | (simp [*]; omega)) (by first | omega | (simp; done) | (simp; omega) | (rw [List.length_map]; assumption) | assumption | rfl | (simp [*]; done) | (simp [*]; omega)) (one_B8 _)) ?_
  clear hH; rintro _ w hH
  refine wpList_nil ?_
  refine hK12 _ _ ?_
  clear hK12
  replace hA := hA.s1 2
  refine wp_ret ?_
  refine post_ret hA (res_c rfl hA rfl (resW hH 0 rfl Tryz.underlying25 rfl ti25 (by first | assumption | (rw [List.length_map]; assumption) | rfl | exact sha_length _ | (simp; done) | (simp [*]; done) | omega))) ?_
  replace hH := hH.pick [] (Hs' := []) rfl
  exact ⟨_, rfl, by rw [msgO_end], hH⟩

theorem reforoot_any {w0 : World} {lv : Nat} (hg : Gl (lv + 2) w0) (v : Value) (ls : List Bs) (hd : Dg ls) (hr : RdD [] w0 v ls) (hl : ls.length ≤ 4096) :
    Calls Tryz.prog 57 #[v] w0 (Ret fun r w' => r = .agg ((rootO ls).map B8).toArray ∧ HS [] w0 w' []) := by
 have hH := HS.start w0
 refine start (n := 21) (E := [(0, _)]) Tryz.func57 rfl rfl rfl (args_look rfl) ?_
 intro a hA
 refine wp_seq_k fun K1 hK1 => ?_
 refine wp_region_lit ?_
 refine sl hA (lo_allocA hH ti25) rfl ?_
 clear hH; rintro _ w ⟨b_t2, rfl, hH⟩ a hA
 refine wpList_nil ?_
 refine hK1 _ _ ?_
 clear hK1
 refine wp_seq_k fun K2 hK2 => ?_
 refine wp_region_lit ?_
 refine sl hA (lo_bs (f := B8) (e := 5) ([2#8]) hH rfl rfl (fun w => by kernel_rfl)) rfl ?_
 clear hH; rintro v_t5 w ⟨N_t5, hO_t5, hH⟩ a hA
 refine asg hA fun a hA => ?_
 refine wpList_nil ?_
 refine hK2 _ _ ?_
 clear hK2
 replace hA := hA.s3 3 2 0
 refine wp_seq_k fun K3 hK3 => ?_
 refine wp_seq_k fun K4 hK4 => ?_
 refine wp_region_lit ?_
 refine asg hA fun a hA => ?_
 refine wpList_nil ?_
 refine hK4 _ _ ?_
 clear hK4
 refine wp_block ?_
 replace hH := HS.fold [_] [_] hH
 obtain ⟨NR5, hNR5, hH⟩ := hH
 refine wp_loop_ghost (fun gm a w => ∃ k : Nat, ∃ v_o : Value, ∃ N_o : Hl, At 21 [(4, I k), (3, v_o), (2, (.pointer (some ⟨b_t2, 0, none⟩))), (0, v)] a ∧ HS [] w0 w ([N_o, NR5]) ∧ (k ≤ ls.length) ∧ (Ow B8 5 v_o (msgO ls k) N_o) ∧ gm = ls.length - k) (ls.length - (0)) ⟨0, v_t5, N_t5, hA.sub ⟨rfl, rfl, rfl, rfl, trivial⟩, hH, by omega, by exact hO_t5, rfl⟩ ?_
 clear hA hH
 rintro gm a w ⟨k, v_o, N_o, hA, hH, hk, hO_o, rfl⟩
 have hml := msgO_len hd hk
 refine wp_seq_k fun K6 hK6 => ?_
 refine wp_seq_k fun K7 hK7 => ?_
 refine wp_region_lit ?_
 refine mv hA fun a hA => ?_
 refine mv hA fun a hA => ?_
 refine sq hA (q_len Tryz.underlying69 rfl (Rd.shp hr)) rfl fun a hA => ?_
 refine sq hA (q_lssI rfl rfl) rfl fun a hA => ?_
 refine wpList_nil ?_
 refine hK7 _ _ ?_
 clear hK7
 refine cond_d hA rfl (fun hc9 => ?_) (fun hc9 => ?_)
 ·skip
  refine wp_skip ?_
  refine hK6 _ _ ?_
  clear hK6
  refine wp_seq_k fun K8 hK8 => ?_
  refine wp_block ?_
  refine wp_region_lit ?_
  refine mv hA fun a hA => ?_
  refine mv hA fun a hA => ?_
  refine mv hA fun a hA => ?_
  refine sq hA (q_idxk (k) Tryz.underlying69 ti25 rfl rfl (by first | omega | rfl) (Rd.shp hr) (by first | omega | (simp; done) | (simp; omega) | (rw [List.length_map]; assumption) | assumption | rfl | (simp [*]; done) | (simp [*]; omega))) rfl fun a hA => ?_
  refine sq hA (q_loadRA (i := k) Tryz.underlying25 rfl ti25 rfl (hH.rd hr) (by first | omega | (simp; done) | (simp; omega) | (rw [List.length_map]; assumption) | assumption | rfl | (simp [*]; done) | (simp [*]; omega)) _ (dc_at (by assumption) (by first | omega | (simp; done) | (simp; omega) | (rw [List.length_map]; assumption) | assumption | rfl | (simp [*]; done) | (simp [*]; omega)))) rfl fun a hA => ?_
  have hkl := hd.getD (i := k) (by omega)
  refine sl hA (lo_call fn60 rfl (refdigest_any _ (by first | assumption | (rw [List.length_map]; assumption) | rfl | exact sha_length _ | (simp; done) | (simp [*]; done) | omega))) rfl ?_
  rintro _ w ⟨v_t17, N_t17, rfl, hO_t17, hC⟩ a hA
  replace hH := HS.call0 hH hC
  clear hC
  replace hH := hH.pick [1, 0, 2] (Hs' := [_, _, _]) rfl
  refine sl hA (lo_appm hH Tryz.underlying41 Tryz.underlying41 (.inl rfl) ti5 rfl rfl rfl hO_o (Rd.src (Own.rd0 hO_t17 hH 1 rfl)) (one_B8 _) (by first | omega | (simp; done) | (simp; omega)) (by first | omega | (simp; done) | (simp; omega))) rfl ?_
  clear hH; rintro v_t18 w ⟨N_t18, hO_t18, hH⟩ a hA
  refine asg hA fun a hA => ?_
  refine wpList_nil ?_
  refine block_normal ?_
  refine hK8 _ _ ?_
  clear hK8
  refine wp_region_lit ?_
  refine mv hA fun a hA => ?_
  refine sq hA (q_addI (n := 1) rfl rfl (by omega)) rfl fun a hA => ?_
  refine asg hA fun a hA => ?_
  refine wpList_nil ?_
  replace hH := hH.pick [0, 2, 1] (Hs' := [_, _, _]) rfl
  replace hH := hH.pick [0, 1] (Hs' := [_, _]) rfl
  exact ⟨_, by omega, k + 1, v_t18, N_t18, hA.sub ⟨rfl, rfl, rfl, rfl, trivial⟩, hH, by omega, by (rw [msgO_succ ls (by omega)]; exact hO_t18), rfl⟩
 ·skip
  obtain rfl : k = ls.length := by omega
  refine wp_exit ?_
  refine then_exit ?_
  replace hH := HS.unfold [_] hNR5 hH
  refine then_exit ?_
  refine exit_here ?_
  refine hK3 _ _ ?_
  clear hK3
  replace hA := hA.s2 3 2
  refine wp_seq_k fun K9 hK9 => ?_
  refine wp_region_lit ?_
  refine mv hA fun a hA => ?_
  refine sl hA (lo_call fn76 rfl (refsum_any (hg.mono0 hH) _ _ (Own.rd0 hO_o hH 0 rfl) (by first | omega | (simp; done) | (simp; omega)))) rfl ?_
  rintro _ w ⟨rfl, hC⟩ a hA
  replace hH := HS.call0 hH hC
  clear hC
  replace hH := hH.pick [1, 0] (Hs' := [_, _]) rfl
  refine s0 hA (lo_storeAm hH ti25 rfl rfl (by first | omega | (simp; done) | (simp; omega) | (rw [List.length_map]; assumption) | assumption | rfl | (simp [*]; done) | (simp [*]; omega)) (by first | omega | (simp; done) | (simp; omega) | (rw [List.length_map]; assumption) | assumption | rfl | (simp [*]; done) | (simp [*]; omega)) (one_B8 _)) ?_
  clear hH; rintro _ w hH
  refine wpList_nil ?_
  refine hK9 _ _ ?_
  clear hK9
  replace hA := hA.s1 2
  refine wp_ret ?_
  refine post_ret hA (res_c rfl hA rfl (resW hH 0 rfl Tryz.underlying25 rfl ti25 (by first | assumption | (rw [List.length_map]; assumption) | rfl | exact sha_length _ | (simp; done) | (simp [*]; done) | omega))) ?_
  replace hH := hH.pick [] (Hs' := []) rfl
  exact ⟨_, rfl, by rw [msgO_end], hH⟩

theorem public_any {w0 : World} {lv : Nat} (hg : Gl lv w0) (s : Bs) (hs : s.length = 32) (n : Nat) (hn : R5 n) :
    Calls Tryz.prog 50 #[(.agg ((s).map B8).toArray), I n] w0 (Ret fun r w' => ∃ v' N, r = .tuple #[v', I 0] ∧ OwD 25 v' (pubV s (2 * n)) N ∧ HS [] w0 w' [N]) := by
 have hH := HS.start w0
 refine start (n := 29) (E := [(0, _), (1, _)]) Tryz.func50 rfl rfl rfl (args_look rfl) ?_
 intro a hA
 have hn1 := hn.1
 have hn2 := hn.2
 refine wp_seq_k fun K1 hK1 => ?_
 refine wp_region_lit ?_
 refine sl hA (lo_boxA hH rfl) rfl ?_
 clear hH; rintro _ w ⟨b_t2, rfl, hH⟩ a hA
 refine asg hA fun a hA => ?_
 refine asg hA fun a hA => ?_
 refine wpList_nil ?_
 refine hK1 _ _ ?_
 clear hK1
 replace hA := hA.s4 5 4 2 1
 refine wp_seq_k fun K2 hK2 => ?_
 refine wp_seq_k fun K3 hK3 => ?_
 refine wp_region_lit ?_
 refine mv hA fun a hA => ?_
 refine sl hA (lo_call fn89 rfl (right5_any _)) rfl ?_
 rintro _ w ⟨rfl, hC⟩ a hA
 replace hH := HS.call0 hH hC
 clear hC
 replace hA := hA.decT (by exact hn)
 refine sq hA (q_not rfl) rfl fun a hA => ?_
 refine wpList_nil ?_
 refine hK3 _ _ ?_
 clear hK3
 replace hA := hA.s5 11 5 4 2 1
 refine cond_f hA rfl ?_
 refine wp_skip ?_
 refine hK2 _ _ ?_
 clear hK2
 replace hA := hA.s4 5 4 2 1
 refine wp_seq_k fun K4 hK4 => ?_
 refine wp_region_lit ?_
 refine asg hA fun a hA => ?_
 refine wpList_nil ?_
 refine hK4 _ _ ?_
 clear hK4
 refine wp_seq_k fun K5 hK5 => ?_
 refine wp_seq_k fun K6 hK6 => ?_
 refine wp_region_lit ?_
 refine mv hA fun a hA => ?_
 refine mv hA fun a hA => ?_
 refine wpList_nil ?_
 refine hK6 _ _ ?_
 clear hK6
 replace hA := hA.s6 13 12 6 5 4 2
 refine wp_block ?_
 replace hH := hH.nilFront
 refine wp_loop_ghost (fun gm a w => ∃ i : Nat, ∃ v_o : Value, ∃ N_o : Hl, At 29 [(13, I i), (12, I n), (6, v_o), (5, (I 0)), (4, (.slice none 0 0)), (2, (.pointer (some ⟨b_t2, 0, none⟩)))] a ∧ HS [] w0 w ([N_o, [(b_t2, Obj.cells ((s).map B8).toArray 25 (0, 0))]]) ∧ (i ≤ n) ∧ (OwD 25 v_o (pubV s (2 * i)) N_o) ∧ gm = n - i) (n - (0)) ⟨0, (.slice none 0 0), [], hA.sub ⟨rfl, rfl, rfl, rfl, rfl, rfl, trivial⟩, hH, by omega, by exact OwD.nil _, rfl⟩ ?_
 clear hA hH
 rintro gm a w ⟨i, v_o, N_o, hA, hH, hi, hO_o, rfl⟩
 refine wp_seq_k fun K7 hK7 => ?_
 refine wp_region_lit ?_
 refine sq hA (q_lssI rfl rfl) rfl fun a hA => ?_
 refine wpList_nil ?_
 refine hK7 _ _ ?_
 clear hK7
 refine wp_seq_k fun K8 hK8 => ?_
 refine cond_d hA rfl (fun hc14 => ?_) (fun hc14 => ?_)
 ·skip
  refine wp_skip ?_
  refine hK8 _ _ ?_
  clear hK8
  refine wp_seq_k fun K9 hK9 => ?_
  refine wp_block ?_
  refine wp_seq_k fun K10 hK10 => ?_
  refine wp_region_lit ?_
  refine mv hA fun a hA => ?_
  refine asg hA fun a hA => ?_
  refine wpList_nil ?_
  refine hK10 _ _ ?_
  clear hK10
  refine wp_seq_k fun K11 hK11 => ?_
  refine wp_region_lit ?_
  refine mv hA fun a hA => ?_
  refine wpList_nil ?_
  refine hK11 _ _ ?_
  clear hK11
  refine wp_block ?_
  refine wp_loop_ghost (fun gm a w => ∃ b : Nat, ∃ v_p : Value, ∃ N_p : Hl, At 29 [(16, I b), (7, (I i)), (15, (I i)), (13, (I i)), (12, (I n)), (6, v_p), (5, (I 0)), (4, (.slice none 0 0)), (2, (.pointer (some ⟨b_t2, 0, none⟩)))] a ∧ HS [] w0 w ([N_p, [(b_t2, Obj.cells ((s).map B8).toArray 25 (0, 0))]]) ∧ (b ≤ 2) ∧ (OwD 25 v_p (pubV s (2 * i + b)) N_p) ∧ gm = 2 - b) (2 - (0)) ⟨0, v_o, N_o, hA.sub ⟨rfl, rfl, rfl, rfl, rfl, rfl, rfl, rfl, rfl, trivial⟩, hH, by omega, by exact hO_o, rfl⟩ ?_
  clear hA hH
  rintro gm a w ⟨b, v_p, N_p, hA, hH, hb, hO_p, rfl⟩
  refine wp_seq_k fun K12 hK12 => ?_
  refine wp_region_lit ?_
  refine sq hA (q_lssI (n := 2) rfl rfl) rfl fun a hA => ?_
  refine wpList_nil ?_
  refine hK12 _ _ ?_
  clear hK12
  refine wp_seq_k fun K13 hK13 => ?_
  refine cond_d hA rfl (fun hc17 => ?_) (fun hc17 => ?_)
  ·skip
   refine wp_skip ?_
   refine hK13 _ _ ?_
   clear hK13
   refine wp_seq_k fun K14 hK14 => ?_
   refine wp_block ?_
   refine wp_seq_k fun K15 hK15 => ?_
   refine wp_region_lit ?_
   refine mv hA fun a hA => ?_
   refine asg hA fun a hA => ?_
   refine wpList_nil ?_
   refine hK15 _ _ ?_
   clear hK15
   refine wp_region_lit ?_
   refine mv hA fun a hA => ?_
   refine sq hA (q_loadW hH 1 rfl Tryz.underlying25 rfl ti25 rfl (by first | omega | (simp; done) | (simp; omega) | (rw [List.length_map]; assumption) | assumption | rfl | (simp [*]; done) | (simp [*]; omega))) rfl fun a hA => ?_
   refine mv hA fun a hA => ?_
   refine mv hA fun a hA => ?_
   refine sl hA (lo_call fn90 rfl (pk_any (hg.mono0 hH) _ _ _ (by first | assumption | (rw [List.length_map]; assumption) | rfl | exact sha_length _ | (simp; done) | (simp [*]; done) | omega) (by first | omega | (simp; done) | (simp; omega)) (by first | omega | (simp; done) | (simp; omega)))) rfl ?_
   rintro _ w ⟨rfl, hC⟩ a hA
   replace hH := HS.call0 hH hC
   clear hC
   refine sl hA (lo_buildD (ls := [_]) hH Tryz.underlying69 ti25 rfl rfl rfl (by decide) (by decide) (by first | assumption | exact Dg.one (by first | assumption | (rw [List.length_map]; assumption) | rfl | exact sha_length _ | (simp; done) | (simp [*]; done) | omega) | exact Dg.two (by first | assumption | (rw [List.length_map]; assumption) | rfl | exact sha_length _ | (simp; done) | (simp [*]; done) | omega) (by first | assumption | (rw [List.length_map]; assumption) | rfl | exact sha_length _ | (simp; done) | (simp [*]; done) | omega))) rfl ?_
   clear hH; rintro v_t24 w ⟨N_t24, hO_t24, hH⟩ a hA
   replace hH := hH.pick [1, 0, 2] (Hs' := [_, _, _]) rfl
   refine sl hA (lo_appD hH Tryz.underlying69 Tryz.underlying69 (.inl rfl) ti25 rfl rfl rfl hO_p (Own.rd0 hO_t24 hH 1 rfl) (by first | omega | (simp; omega)) (by first | omega | (simp; omega))) rfl ?_
   clear hH; rintro v_t25 w ⟨N_t25, hO_t25, hH⟩ a hA
   refine asg hA fun a hA => ?_
   refine wpList_nil ?_
   refine block_normal ?_
   refine hK14 _ _ ?_
   clear hK14
   refine wp_region_lit ?_
   refine sq hA (q_addI (n := 1) rfl rfl (by omega)) rfl fun a hA => ?_
   refine mv hA fun a hA => ?_
   refine wpList_nil ?_
   replace hH := hH.pick [0, 2, 1] (Hs' := [_, _, _]) rfl
   replace hH := hH.pick [0, 1] (Hs' := [_, _]) rfl
   exact ⟨_, by omega, b + 1, v_t25, N_t25, hA.sub ⟨rfl, rfl, rfl, rfl, rfl, rfl, rfl, rfl, rfl, trivial⟩, hH, by omega, by (rw [← Nat.add_assoc, pubV_succ]; exact hO_t25), rfl⟩
  ·skip
   obtain rfl : b = 2 := by omega
   replace hO_p : OwD 25 v_p (pubV s (2 * (i + 1))) N_p := hO_p
   refine wp_exit ?_
   refine then_exit ?_
   refine then_exit ?_
   refine exit_here ?_
   refine block_normal ?_
   refine hK9 _ _ ?_
   clear hK9
   refine wp_region_lit ?_
   refine sq hA (q_addI (n := 1) rfl rfl (by omega)) rfl fun a hA => ?_
   refine mv hA fun a hA => ?_
   refine wpList_nil ?_
   exact ⟨_, by omega, i + 1, v_p, N_p, hA.sub ⟨rfl, rfl, rfl, rfl, rfl, rfl, trivial⟩, hH, by omega, by exact hO_p, rfl⟩
 ·skip
  obtain rfl : i = n := by omega
  refine wp_exit ?_
  refine then_exit ?_
  refine then_exit ?_
  refine exit_here ?_
  refine hK5 _ _ ?_
  clear hK5
  replace hA := hA.s3 6 5 4
  refine wp_seq_k fun K16 hK16 => ?_
  refine wp_region_lit ?_
  refine mv hA fun a hA => ?_
  refine asg hA fun a hA => ?_
  refine asg hA fun a hA => ?_
  refine wpList_nil ?_
  refine hK16 _ _ ?_
  clear hK16
  replace hA := hA.s2 5 4
  refine wp_ret ?_
  refine post_ret hA (res_2 rfl hA rfl rfl) ?_
  replace hH := hH.pick [0] (Hs' := [_]) rfl
  exact ⟨_, rfl, v_o, N_o, rfl, hO_o, hH⟩

theorem refpublic_any {w0 : World} {lv : Nat} (hg : Gl (lv + 2) w0) (s : Bs) (hs : s.length = 32) (n : Nat) (hn : R5 n) :
    Calls Tryz.prog 55 #[(.agg ((s).map B8).toArray), I n] w0 (Ret fun r w' => ∃ v' N, r = .tuple #[v', I 0] ∧ OwD 25 v' (pubV s (2 * n)) N ∧ HS [] w0 w' [N]) := by
 have hH := HS.start w0
 refine start (n := 28) (E := [(0, _), (1, _)]) Tryz.func55 rfl rfl rfl (args_look rfl) ?_
 intro a hA
 have hn1 := hn.1
 have hn2 := hn.2
 refine wp_seq_k fun K1 hK1 => ?_
 refine wp_region_lit ?_
 refine sl hA (lo_boxA hH rfl) rfl ?_
 clear hH; rintro _ w ⟨b_t2, rfl, hH⟩ a hA
 refine asg hA fun a hA => ?_
 refine asg hA fun a hA => ?_
 refine wpList_nil ?_
 refine hK1 _ _ ?_
 clear hK1
 replace hA := hA.s4 5 4 2 1
 refine wp_seq_k fun K2 hK2 => ?_
 refine wp_seq_k fun K3 hK3 => ?_
 refine wp_region_lit ?_
 refine mv hA fun a hA => ?_
 refine sl hA (lo_call fn94 rfl (refright5_any _)) rfl ?_
 rintro _ w ⟨rfl, hC⟩ a hA
 replace hH := HS.call0 hH hC
 clear hC
 replace hA := hA.decT (by exact hn)
 refine sq hA (q_not rfl) rfl fun a hA => ?_
 refine wpList_nil ?_
 refine hK3 _ _ ?_
 clear hK3
 replace hA := hA.s5 10 5 4 2 1
 refine cond_f hA rfl ?_
 refine wp_skip ?_
 refine hK2 _ _ ?_
 clear hK2
 replace hA := hA.s4 5 4 2 1
 refine wp_seq_k fun K4 hK4 => ?_
 refine wp_region_lit ?_
 refine asg hA fun a hA => ?_
 refine wpList_nil ?_
 refine hK4 _ _ ?_
 clear hK4
 refine wp_seq_k fun K5 hK5 => ?_
 refine wp_seq_k fun K6 hK6 => ?_
 refine wp_region_lit ?_
 refine asg hA fun a hA => ?_
 refine wpList_nil ?_
 refine hK6 _ _ ?_
 clear hK6
 refine wp_block ?_
 replace hH := hH.nilFront
 refine wp_loop_ghost (fun gm a w => ∃ i : Nat, ∃ v_o : Value, ∃ N_o : Hl, At 28 [(7, I i), (6, v_o), (5, (I 0)), (4, (.slice none 0 0)), (2, (.pointer (some ⟨b_t2, 0, none⟩))), (1, I n)] a ∧ HS [] w0 w ([N_o, [(b_t2, Obj.cells ((s).map B8).toArray 25 (0, 0))]]) ∧ (i ≤ n) ∧ (OwD 25 v_o (pubV s (2 * i)) N_o) ∧ gm = n - i) (n - (0)) ⟨0, (.slice none 0 0), [], hA.sub ⟨rfl, rfl, rfl, rfl, rfl, rfl, trivial⟩, hH, by omega, by exact OwD.nil _, rfl⟩ ?_
 clear hA hH
 rintro gm a w ⟨i, v_o, N_o, hA, hH, hi, hO_o, rfl⟩
 refine wp_seq_k fun K7 hK7 => ?_
 refine wp_seq_k fun K8 hK8 => ?_
 refine wp_region_lit ?_
 refine mv hA fun a hA => ?_
 refine mv hA fun a hA => ?_
 refine sq hA (q_lssI rfl rfl) rfl fun a hA => ?_
 refine wpList_nil ?_
 refine hK8 _ _ ?_
 clear hK8
 refine cond_d hA rfl (fun hc13 => ?_) (fun hc13 => ?_)
 ·skip
  refine wp_skip ?_
  refine hK7 _ _ ?_
  clear hK7
  refine wp_seq_k fun K9 hK9 => ?_
  refine wp_block ?_
  refine any_goI mixed [1] (Hs' := [_]) rfl (fun _ => true) hH ?_
  clear hH; intro w hH hS
  refine any_l 12 ?_
  refine p0 hA 0 1 rfl (fun w => (q_move rfl)) fun a hA => ?_
  refine r0 hA 1 3 rfl hS (fun w hH => (q_loadW hH 0 rfl Tryz.underlying25 rfl ti25 rfl (by first | omega | (simp; done) | (simp; omega) | (rw [List.length_map]; assumption) | assumption | rfl | (simp [*]; done) | (simp [*]; omega)))) fun a hA => ?_
  refine p0 hA 2 7 rfl (fun w => (q_move rfl)) fun a hA => ?_
  refine r0 hA 5 39 rfl hS (fun w hH => (q_loadW hH 0 rfl Tryz.underlying25 rfl ti25 rfl (by first | omega | (simp; done) | (simp; omega) | (rw [List.length_map]; assumption) | assumption | rfl | (simp [*]; done) | (simp [*]; omega)))) fun a hA => ?_
  refine p0 hA 6 103 rfl (fun w => (q_move rfl)) fun a hA => ?_
  refine a1 hA 3 111 rfl (lo_call fn96 rfl (refsk_any (hg.mono0 hH) _ _ _ (by first | assumption | (rw [List.length_map]; assumption) | rfl | exact sha_length _ | (simp; done) | (simp [*]; done) | omega) (by first | omega | (simp; done) | (simp; omega)) (by first | omega | (simp; done) | (simp; omega)))) ?_
  rintro _ w ⟨rfl, hC⟩
  replace hH := HS.call0 hH hC
  clear hC
  replace hS := hH.pick [1] (Hs' := [_]) rfl
  refine ⟨fun _ _ => hS, ?_⟩
  intro a hA
  refine a1 hA 4 127 rfl (lo_call fn95 rfl (refsum5_any (hg.mono0 hH) _ (by first | assumption | (rw [List.length_map]; assumption) | rfl | exact sha_length _ | (simp; done) | (simp [*]; done) | omega))) ?_
  rintro _ w ⟨rfl, hC⟩
  replace hH := HS.call0 hH hC
  clear hC
  replace hS := hH.pick [1] (Hs' := [_]) rfl
  refine ⟨fun _ _ => hS, ?_⟩
  intro a hA
  refine a1 hA 7 255 rfl (lo_call fn96 rfl (refsk_any (hg.mono0 hH) _ _ _ (by first | assumption | (rw [List.length_map]; assumption) | rfl | exact sha_length _ | (simp; done) | (simp [*]; done) | omega) (by first | omega | (simp; done) | (simp; omega)) (by first | omega | (simp; done) | (simp; omega)))) ?_
  rintro _ w ⟨rfl, hC⟩
  replace hH := HS.call0 hH hC
  clear hC
  replace hS := hH.pick [1] (Hs' := [_]) rfl
  refine ⟨fun _ _ => hS, ?_⟩
  intro a hA
  refine a1 hA 8 511 rfl (lo_call fn95 rfl (refsum5_any (hg.mono0 hH) _ (by first | assumption | (rw [List.length_map]; assumption) | rfl | exact sha_length _ | (simp; done) | (simp [*]; done) | omega))) ?_
  rintro _ w ⟨rfl, hC⟩
  replace hH := HS.call0 hH hC
  clear hC
  replace hS := hH.pick [1] (Hs' := [_]) rfl
  refine ⟨fun _ _ => hS, ?_⟩
  intro a hA
  refine a1 hA 9 1023 rfl (lo_buildD (ls := [_, _]) hH Tryz.underlying69 ti25 rfl rfl rfl (by decide) (by decide) (by first | assumption | exact Dg.one (by first | assumption | (rw [List.length_map]; assumption) | rfl | exact sha_length _ | (simp; done) | (simp [*]; done) | omega) | exact Dg.two (by first | assumption | (rw [List.length_map]; assumption) | rfl | exact sha_length _ | (simp; done) | (simp [*]; done) | omega) (by first | assumption | (rw [List.length_map]; assumption) | rfl | exact sha_length _ | (simp; done) | (simp [*]; done) | omega))) ?_
  clear hH; rintro v_t25 w ⟨N_t25, hO_t25, hH⟩
  replace hS := hH.pick [2] (Hs' := [_]) rfl
  refine ⟨fun _ _ => hS, ?_⟩
  intro a hA
  replace hH := hH.pick [1, 0, 2] (Hs' := [_, _, _]) rfl
  refine a1 hA 10 2047 rfl (lo_appD hH Tryz.underlying69 Tryz.underlying69 (.inl rfl) ti25 rfl rfl rfl hO_o (Own.rd0 hO_t25 hH 1 rfl) (by first | omega | (simp; omega)) (by first | omega | (simp; omega))) ?_
  clear hH; rintro v_t26 w ⟨N_t26, hO_t26, hH⟩
  replace hS := hH.pick [2] (Hs' := [_]) rfl
  refine ⟨fun _ _ => hS, ?_⟩
  intro a hA
  refine p0 hA 11 4095 rfl (fun w => (q_assign rfl)) fun a hA => ?_
  refine a_end (by kernel_rfl) ?_ _
  refine block_normal ?_
  refine hK9 _ _ ?_
  clear hK9
  refine wp_region_lit ?_
  refine mv hA fun a hA => ?_
  refine sq hA (q_addI (n := 1) rfl rfl (by omega)) rfl fun a hA => ?_
  refine asg hA fun a hA => ?_
  refine wpList_nil ?_
  replace hH := hH.pick [0, 2, 1] (Hs' := [_, _, _]) rfl
  replace hH := hH.pick [0, 1] (Hs' := [_, _]) rfl
  exact ⟨_, by omega, i + 1, v_t26, N_t26, hA.sub ⟨rfl, rfl, rfl, rfl, rfl, rfl, trivial⟩, hH, by omega, by (rw [pubV_two]; exact hO_t26), rfl⟩
 ·skip
  obtain rfl : i = n := by omega
  refine wp_exit ?_
  refine then_exit ?_
  refine then_exit ?_
  refine exit_here ?_
  refine hK5 _ _ ?_
  clear hK5
  replace hA := hA.s3 6 5 4
  refine wp_seq_k fun K10 hK10 => ?_
  refine wp_region_lit ?_
  refine mv hA fun a hA => ?_
  refine asg hA fun a hA => ?_
  refine asg hA fun a hA => ?_
  refine wpList_nil ?_
  refine hK10 _ _ ?_
  clear hK10
  replace hA := hA.s2 5 4
  refine wp_ret ?_
  refine post_ret hA (res_2 rfl hA rfl rfl) ?_
  replace hH := hH.pick [0] (Hs' := [_]) rfl
  exact ⟨_, rfl, v_o, N_o, rfl, hO_o, hH⟩

theorem sign_any {w0 : World} {lv : Nat} (hg : Gl lv w0) (s : Bs) (hs : s.length = 32) (n : Nat) (hn : R5 n) (u : Value) (l : Bs) (hu : By [] w0 u l) (hl : l.length ≤ 1048576) :
    Calls Tryz.prog 68 #[(.agg ((s).map B8).toArray), I n, u] w0 (Ret fun r w' => ∃ v' N, r = .tuple #[v', I 0] ∧ OwD 25 v' (sigV s l n) N ∧ HS [] w0 w' [N]) := by
 have hH := HS.start w0
 refine start (n := 37) (E := [(0, _), (1, _), (2, _)]) Tryz.func68 rfl rfl rfl (args_look rfl) ?_
 intro a hA
 have hn1 := hn.1
 have hn2 := hn.2
 refine wp_seq_k fun K1 hK1 => ?_
 refine wp_region_lit ?_
 refine sl hA (lo_boxA hH rfl) rfl ?_
 clear hH; rintro _ w ⟨b_t3, rfl, hH⟩ a hA
 refine asg hA fun a hA => ?_
 refine asg hA fun a hA => ?_
 refine wpList_nil ?_
 refine hK1 _ _ ?_
 clear hK1
 replace hA := hA.s5 7 6 3 1 2
 refine wp_seq_k fun K2 hK2 => ?_
 refine wp_seq_k fun K3 hK3 => ?_
 refine wp_region_lit ?_
 refine mv hA fun a hA => ?_
 refine sl hA (lo_call fn89 rfl (right5_any _)) rfl ?_
 rintro _ w ⟨rfl, hC⟩ a hA
 replace hH := HS.call0 hH hC
 clear hC
 replace hA := hA.decT (by exact hn)
 refine sq hA (q_not rfl) rfl fun a hA => ?_
 refine wpList_nil ?_
 refine hK3 _ _ ?_
 clear hK3
 replace hA := hA.s6 13 7 6 3 1 2
 refine cond_f hA rfl ?_
 refine wp_skip ?_
 refine hK2 _ _ ?_
 clear hK2
 replace hA := hA.s5 7 6 3 1 2
 refine wp_seq_k fun K4 hK4 => ?_
 refine wp_region_lit ?_
 refine asg hA fun a hA => ?_
 refine wpList_nil ?_
 refine hK4 _ _ ?_
 clear hK4
 refine wp_seq_k fun K5 hK5 => ?_
 refine wp_seq_k fun K6 hK6 => ?_
 refine wp_region_lit ?_
 refine mv hA fun a hA => ?_
 refine mv hA fun a hA => ?_
 refine sl hA (lo_call fn106 rfl (chosen_any (hg.mono0 hH) _ _ _ (hH.rd hu) (by first | omega | (simp; done) | (simp; omega)) (by first | omega | (simp; done) | (simp; omega)))) rfl ?_
 rintro _ w ⟨v_t16, N_t16, rfl, hO_t16, hC⟩ a hA
 replace hH := HS.call0 hH hC
 clear hC
 refine sq hA (q_len Tryz.underlying165 rfl (Own.shp hO_t16)) rfl fun a hA => ?_
 rw [show (((List.range n).map (btV l)).length : Int) = n by simp] at hA
 refine mv hA fun a hA => ?_
 refine wpList_nil ?_
 refine hK6 _ _ ?_
 clear hK6
 replace hA := hA.s7 18 17 16 8 7 6 3
 refine wp_block ?_
 replace hH := hH.nilFront
 replace hH := hH.pick [0, 2, 1] (Hs' := [_, _, _]) rfl
 refine wp_loop_ghost (fun gm a w => ∃ i : Nat, ∃ v_o : Value, ∃ N_o : Hl, At 37 [(18, I i), (17, I n), (16, v_t16), (8, v_o), (7, (I 0)), (6, (.slice none 0 0)), (3, (.pointer (some ⟨b_t3, 0, none⟩)))] a ∧ HS [] w0 w ([N_o, [(b_t3, Obj.cells ((s).map B8).toArray 25 (0, 0))], N_t16]) ∧ (i ≤ n) ∧ (OwD 25 v_o (sigV s l i) N_o) ∧ gm = n - i) (n - (0)) ⟨0, (.slice none 0 0), [], hA.sub ⟨rfl, rfl, rfl, rfl, rfl, rfl, rfl, trivial⟩, hH, by omega, by exact OwD.nil _, rfl⟩ ?_
 clear hA hH
 rintro gm a w ⟨i, v_o, N_o, hA, hH, hi, hO_o, rfl⟩
 refine wp_seq_k fun K7 hK7 => ?_
 refine wp_region_lit ?_
 refine sq hA (q_lssI rfl rfl) rfl fun a hA => ?_
 refine wpList_nil ?_
 refine hK7 _ _ ?_
 clear hK7
 refine wp_seq_k fun K8 hK8 => ?_
 refine cond_d hA rfl (fun hc19 => ?_) (fun hc19 => ?_)
 ·skip
  refine wp_skip ?_
  refine hK8 _ _ ?_
  clear hK8
  refine wp_seq_k fun K9 hK9 => ?_
  refine wp_block ?_
  refine wp_seq_k fun K10 hK10 => ?_
  refine wp_region_lit ?_
  refine mv hA fun a hA => ?_
  refine sq hA (q_idx1 (i) Tryz.underlying165 ti3 rfl rfl (by first | omega | rfl) (Own.shp hO_t16) (by simp; omega)) rfl fun a hA => ?_
  refine sq hA (q_loadRm ((0 : Nat)) Tryz.underlying3 rfl rfl (Own.rd0 hO_t16 hH 2 rfl) (by simp; omega)) rfl fun a hA => ?_
  have hb := btV_lt l i
  rw [ch_at l (by omega)] at hA
  refine asg hA fun a hA => ?_
  refine asg hA fun a hA => ?_
  refine wpList_nil ?_
  refine hK10 _ _ ?_
  clear hK10
  refine any_goI mixed [1, 2] (Hs' := [_, _]) rfl (fun _ => true) hH ?_
  clear hH; intro w hH hS
  refine any_l 13 ?_
  refine p0 hA 0 1 rfl (fun w => (q_move rfl)) fun a hA => ?_
  refine r0 hA 1 3 rfl hS (fun w hH => (q_loadW hH 0 rfl Tryz.underlying25 rfl ti25 rfl (by first | omega | (simp; done) | (simp; omega) | (rw [List.length_map]; assumption) | assumption | rfl | (simp [*]; done) | (simp [*]; omega)))) fun a hA => ?_
  refine p0 hA 2 7 rfl (fun w => (q_move rfl)) fun a hA => ?_
  refine p0 hA 3 15 rfl (fun w => (q_move rfl)) fun a hA => ?_
  refine r0 hA 5 47 rfl hS (fun w hH => (q_loadW hH 0 rfl Tryz.underlying25 rfl ti25 rfl (by first | omega | (simp; done) | (simp; omega) | (rw [List.length_map]; assumption) | assumption | rfl | (simp [*]; done) | (simp [*]; omega)))) fun a hA => ?_
  refine p0 hA 6 111 rfl (fun w => (q_move rfl)) fun a hA => ?_
  refine p0 hA 7 239 rfl (fun w => (q_move rfl)) fun a hA => ?_
  refine p0 hA 8 495 rfl (fun w => (q_subI (m := 1) rfl rfl (by omega))) fun a hA => ?_
  rw [show ((1 : Int) - ((btV l i : Nat) : Int)) = ((1 - btV l i : Nat) : Int) by omega] at hA
  refine a1 hA 4 511 rfl (lo_call fn107 rfl (sk_any (hg.mono0 hH) _ _ _ (by first | assumption | (rw [List.length_map]; assumption) | rfl | exact sha_length _ | (simp; done) | (simp [*]; done) | omega) (by first | omega | (simp; done) | (simp; omega)) (by first | omega | (simp; done) | (simp; omega)))) ?_
  rintro _ w ⟨rfl, hC⟩
  replace hH := HS.call0 hH hC
  clear hC
  replace hS := hH.pick [1, 2] (Hs' := [_, _]) rfl
  refine ⟨fun _ _ => hS, ?_⟩
  intro a hA
  refine a1 hA 9 1023 rfl (lo_call fn90 rfl (pk_any (hg.mono0 hH) _ _ _ (by first | assumption | (rw [List.length_map]; assumption) | rfl | exact sha_length _ | (simp; done) | (simp [*]; done) | omega) (by first | omega | (simp; done) | (simp; omega)) (by first | omega | (simp; done) | (simp; omega)))) ?_
  rintro _ w ⟨rfl, hC⟩
  replace hH := HS.call0 hH hC
  clear hC
  replace hS := hH.pick [1, 2] (Hs' := [_, _]) rfl
  refine ⟨fun _ _ => hS, ?_⟩
  intro a hA
  refine a1 hA 10 2047 rfl (lo_buildD (ls := [_, _]) hH Tryz.underlying69 ti25 rfl rfl rfl (by decide) (by decide) (by first | assumption | exact Dg.one (by first | assumption | (rw [List.length_map]; assumption) | rfl | exact sha_length _ | (simp; done) | (simp [*]; done) | omega) | exact Dg.two (by first | assumption | (rw [List.length_map]; assumption) | rfl | exact sha_length _ | (simp; done) | (simp [*]; done) | omega) (by first | assumption | (rw [List.length_map]; assumption) | rfl | exact sha_length _ | (simp; done) | (simp [*]; done) | omega))) ?_
  clear hH; rintro v_t33 w ⟨N_t33, hO_t33, hH⟩
  replace hS := hH.pick [2, 3] (Hs' := [_, _]) rfl
  refine ⟨fun _ _ => hS, ?_⟩
  intro a hA
  replace hH := hH.pick [1, 0, 2, 3] (Hs' := [_, _, _, _]) rfl
  refine a1 hA 11 4095 rfl (lo_appD hH Tryz.underlying69 Tryz.underlying69 (.inl rfl) ti25 rfl rfl rfl hO_o (Own.rd0 hO_t33 hH 1 rfl) (by first | omega | (simp; omega)) (by first | omega | (simp; omega))) ?_
  clear hH; rintro v_t34 w ⟨N_t34, hO_t34, hH⟩
  replace hS := hH.pick [2, 3] (Hs' := [_, _]) rfl
  refine ⟨fun _ _ => hS, ?_⟩
  intro a hA
  refine p0 hA 12 8191 rfl (fun w => (q_assign rfl)) fun a hA => ?_
  refine a_end (by kernel_rfl) ?_ _
  refine block_normal ?_
  refine hK9 _ _ ?_
  clear hK9
  refine wp_region_lit ?_
  refine sq hA (q_addI (n := 1) rfl rfl (by omega)) rfl fun a hA => ?_
  refine mv hA fun a hA => ?_
  refine wpList_nil ?_
  replace hH := hH.pick [0, 2, 3, 1] (Hs' := [_, _, _, _]) rfl
  replace hH := hH.pick [0, 1, 2] (Hs' := [_, _, _]) rfl
  exact ⟨_, by omega, i + 1, v_t34, N_t34, hA.sub ⟨rfl, rfl, rfl, rfl, rfl, rfl, rfl, trivial⟩, hH, by omega, by exact hO_t34, rfl⟩
 ·skip
  obtain rfl : i = n := by omega
  refine wp_exit ?_
  refine then_exit ?_
  refine then_exit ?_
  refine exit_here ?_
  refine hK5 _ _ ?_
  clear hK5
  replace hA := hA.s3 8 7 6
  refine wp_seq_k fun K11 hK11 => ?_
  refine wp_region_lit ?_
  refine mv hA fun a hA => ?_
  refine asg hA fun a hA => ?_
  refine asg hA fun a hA => ?_
  refine wpList_nil ?_
  refine hK11 _ _ ?_
  clear hK11
  replace hA := hA.s2 7 6
  refine wp_ret ?_
  refine post_ret hA (res_2 rfl hA rfl rfl) ?_
  replace hH := hH.pick [0] (Hs' := [_]) rfl
  exact ⟨_, rfl, v_o, N_o, rfl, hO_o, hH⟩

theorem refsign_any {w0 : World} {lv : Nat} (hg : Gl (lv + 2) w0) (s : Bs) (hs : s.length = 32) (n : Nat) (hn : R5 n) (u : Value) (l : Bs) (hu : By [] w0 u l) (hl : l.length ≤ 1048576) :
    Calls Tryz.prog 78 #[(.agg ((s).map B8).toArray), I n, u] w0 (Ret fun r w' => ∃ v' N, r = .tuple #[v', I 0] ∧ OwD 25 v' (sigV s l n) N ∧ HS [] w0 w' [N]) := by
 have hH := HS.start w0
 refine start (n := 36) (E := [(0, _), (1, _), (2, _)]) Tryz.func78 rfl rfl rfl (args_look rfl) ?_
 intro a hA
 have hn1 := hn.1
 have hn2 := hn.2
 refine wp_seq_k fun K1 hK1 => ?_
 refine wp_region_lit ?_
 refine sl hA (lo_boxA hH rfl) rfl ?_
 clear hH; rintro _ w ⟨b_t3, rfl, hH⟩ a hA
 refine asg hA fun a hA => ?_
 refine asg hA fun a hA => ?_
 refine wpList_nil ?_
 refine hK1 _ _ ?_
 clear hK1
 replace hA := hA.s5 7 6 3 1 2
 refine wp_seq_k fun K2 hK2 => ?_
 refine wp_seq_k fun K3 hK3 => ?_
 refine wp_region_lit ?_
 refine mv hA fun a hA => ?_
 refine sl hA (lo_call fn94 rfl (refright5_any _)) rfl ?_
 rintro _ w ⟨rfl, hC⟩ a hA
 replace hH := HS.call0 hH hC
 clear hC
 replace hA := hA.decT (by exact hn)
 refine sq hA (q_not rfl) rfl fun a hA => ?_
 refine wpList_nil ?_
 refine hK3 _ _ ?_
 clear hK3
 replace hA := hA.s6 13 7 6 3 1 2
 refine cond_f hA rfl ?_
 refine wp_skip ?_
 refine hK2 _ _ ?_
 clear hK2
 replace hA := hA.s5 7 6 3 1 2
 refine wp_seq_k fun K4 hK4 => ?_
 refine wp_region_lit ?_
 refine asg hA fun a hA => ?_
 refine wpList_nil ?_
 refine hK4 _ _ ?_
 clear hK4
 refine wp_seq_k fun K5 hK5 => ?_
 refine wp_seq_k fun K6 hK6 => ?_
 refine wp_region_lit ?_
 refine asg hA fun a hA => ?_
 refine wpList_nil ?_
 refine hK6 _ _ ?_
 clear hK6
 refine wp_block ?_
 replace hH := hH.nilFront
 refine wp_loop_ghost (fun gm a w => ∃ i : Nat, ∃ v_o : Value, ∃ N_o : Hl, At 36 [(9, I i), (8, v_o), (7, (I 0)), (6, (.slice none 0 0)), (3, (.pointer (some ⟨b_t3, 0, none⟩))), (1, I n), (2, u)] a ∧ HS [] w0 w ([N_o, [(b_t3, Obj.cells ((s).map B8).toArray 25 (0, 0))]]) ∧ (i ≤ n) ∧ (OwD 25 v_o (sigV s l i) N_o) ∧ gm = n - i) (n - (0)) ⟨0, (.slice none 0 0), [], hA.sub ⟨rfl, rfl, rfl, rfl, rfl, rfl, rfl, trivial⟩, hH, by omega, by exact OwD.nil _, rfl⟩ ?_
 clear hA hH
 rintro gm a w ⟨i, v_o, N_o, hA, hH, hi, hO_o, rfl⟩
 refine wp_seq_k fun K7 hK7 => ?_
 refine wp_seq_k fun K8 hK8 => ?_
 refine wp_region_lit ?_
 refine mv hA fun a hA => ?_
 refine mv hA fun a hA => ?_
 refine sq hA (q_lssI rfl rfl) rfl fun a hA => ?_
 refine wpList_nil ?_
 refine hK8 _ _ ?_
 clear hK8
 refine cond_d hA rfl (fun hc16 => ?_) (fun hc16 => ?_)
 ·skip
  refine wp_skip ?_
  refine hK7 _ _ ?_
  clear hK7
  refine wp_seq_k fun K9 hK9 => ?_
  refine wp_block ?_
  refine wp_seq_k fun K10 hK10 => ?_
  refine wp_region_lit ?_
  refine mv hA fun a hA => ?_
  refine mv hA fun a hA => ?_
  refine sl hA (lo_call fn111 rfl (refbt_any (hg.mono0 hH) _ _ _ (hH.rd hu) (by first | omega | (simp; done) | (simp; omega)) (by first | omega | (simp; done) | (simp; omega)))) rfl ?_
  rintro _ w ⟨rfl, hC⟩ a hA
  replace hH := HS.call0 hH hC
  clear hC
  have hb := btV_lt l i
  refine asg hA fun a hA => ?_
  refine wpList_nil ?_
  refine hK10 _ _ ?_
  clear hK10
  refine any_goI mixed [1] (Hs' := [_]) rfl (fun _ => true) hH ?_
  clear hH; intro w hH hS
  refine any_l 14 ?_
  refine p0 hA 0 1 rfl (fun w => (q_move rfl)) fun a hA => ?_
  refine r0 hA 1 3 rfl hS (fun w hH => (q_loadW hH 0 rfl Tryz.underlying25 rfl ti25 rfl (by first | omega | (simp; done) | (simp; omega) | (rw [List.length_map]; assumption) | assumption | rfl | (simp [*]; done) | (simp [*]; omega)))) fun a hA => ?_
  refine p0 hA 2 7 rfl (fun w => (q_move rfl)) fun a hA => ?_
  refine p0 hA 3 15 rfl (fun w => (q_move rfl)) fun a hA => ?_
  refine r0 hA 5 47 rfl hS (fun w hH => (q_loadW hH 0 rfl Tryz.underlying25 rfl ti25 rfl (by first | omega | (simp; done) | (simp; omega) | (rw [List.length_map]; assumption) | assumption | rfl | (simp [*]; done) | (simp [*]; omega)))) fun a hA => ?_
  refine p0 hA 6 111 rfl (fun w => (q_move rfl)) fun a hA => ?_
  refine p0 hA 7 239 rfl (fun w => (q_move rfl)) fun a hA => ?_
  refine p0 hA 8 495 rfl (fun w => (q_subI (m := 1) rfl rfl (by omega))) fun a hA => ?_
  rw [show ((1 : Int) - ((btV l i : Nat) : Int)) = ((1 - btV l i : Nat) : Int) by omega] at hA
  refine a1 hA 4 511 rfl (lo_call fn96 rfl (refsk_any (hg.mono0 hH) _ _ _ (by first | assumption | (rw [List.length_map]; assumption) | rfl | exact sha_length _ | (simp; done) | (simp [*]; done) | omega) (by first | omega | (simp; done) | (simp; omega)) (by first | omega | (simp; done) | (simp; omega)))) ?_
  rintro _ w ⟨rfl, hC⟩
  replace hH := HS.call0 hH hC
  clear hC
  replace hS := hH.pick [1] (Hs' := [_]) rfl
  refine ⟨fun _ _ => hS, ?_⟩
  intro a hA
  refine a1 hA 9 1023 rfl (lo_call fn96 rfl (refsk_any (hg.mono0 hH) _ _ _ (by first | assumption | (rw [List.length_map]; assumption) | rfl | exact sha_length _ | (simp; done) | (simp [*]; done) | omega) (by first | omega | (simp; done) | (simp; omega)) (by first | omega | (simp; done) | (simp; omega)))) ?_
  rintro _ w ⟨rfl, hC⟩
  replace hH := HS.call0 hH hC
  clear hC
  replace hS := hH.pick [1] (Hs' := [_]) rfl
  refine ⟨fun _ _ => hS, ?_⟩
  intro a hA
  refine a1 hA 10 2047 rfl (lo_call fn95 rfl (refsum5_any (hg.mono0 hH) _ (by first | assumption | (rw [List.length_map]; assumption) | rfl | exact sha_length _ | (simp; done) | (simp [*]; done) | omega))) ?_
  rintro _ w ⟨rfl, hC⟩
  replace hH := HS.call0 hH hC
  clear hC
  replace hS := hH.pick [1] (Hs' := [_]) rfl
  refine ⟨fun _ _ => hS, ?_⟩
  intro a hA
  refine a1 hA 11 4095 rfl (lo_buildD (ls := [_, _]) hH Tryz.underlying69 ti25 rfl rfl rfl (by decide) (by decide) (by first | assumption | exact Dg.one (by first | assumption | (rw [List.length_map]; assumption) | rfl | exact sha_length _ | (simp; done) | (simp [*]; done) | omega) | exact Dg.two (by first | assumption | (rw [List.length_map]; assumption) | rfl | exact sha_length _ | (simp; done) | (simp [*]; done) | omega) (by first | assumption | (rw [List.length_map]; assumption) | rfl | exact sha_length _ | (simp; done) | (simp [*]; done) | omega))) ?_
  clear hH; rintro v_t33 w ⟨N_t33, hO_t33, hH⟩
  replace hS := hH.pick [2] (Hs' := [_]) rfl
  refine ⟨fun _ _ => hS, ?_⟩
  intro a hA
  replace hH := hH.pick [1, 0, 2] (Hs' := [_, _, _]) rfl
  refine a1 hA 12 8191 rfl (lo_appD hH Tryz.underlying69 Tryz.underlying69 (.inl rfl) ti25 rfl rfl rfl hO_o (Own.rd0 hO_t33 hH 1 rfl) (by first | omega | (simp; omega)) (by first | omega | (simp; omega))) ?_
  clear hH; rintro v_t34 w ⟨N_t34, hO_t34, hH⟩
  replace hS := hH.pick [2] (Hs' := [_]) rfl
  refine ⟨fun _ _ => hS, ?_⟩
  intro a hA
  refine p0 hA 13 16383 rfl (fun w => (q_assign rfl)) fun a hA => ?_
  refine a_end (by kernel_rfl) ?_ _
  refine block_normal ?_
  refine hK9 _ _ ?_
  clear hK9
  refine wp_region_lit ?_
  refine mv hA fun a hA => ?_
  refine sq hA (q_addI (n := 1) rfl rfl (by omega)) rfl fun a hA => ?_
  refine asg hA fun a hA => ?_
  refine wpList_nil ?_
  replace hH := hH.pick [0, 2, 1] (Hs' := [_, _, _]) rfl
  replace hH := hH.pick [0, 1] (Hs' := [_, _]) rfl
  exact ⟨_, by omega, i + 1, v_t34, N_t34, hA.sub ⟨rfl, rfl, rfl, rfl, rfl, rfl, rfl, trivial⟩, hH, by omega, by exact hO_t34, rfl⟩
 ·skip
  obtain rfl : i = n := by omega
  refine wp_exit ?_
  refine then_exit ?_
  refine then_exit ?_
  refine exit_here ?_
  refine hK5 _ _ ?_
  clear hK5
  replace hA := hA.s3 8 7 6
  refine wp_seq_k fun K11 hK11 => ?_
  refine wp_region_lit ?_
  refine mv hA fun a hA => ?_
  refine asg hA fun a hA => ?_
  refine asg hA fun a hA => ?_
  refine wpList_nil ?_
  refine hK11 _ _ ?_
  clear hK11
  replace hA := hA.s2 7 6
  refine wp_ret ?_
  refine post_ret hA (res_2 rfl hA rfl rfl) ?_
  replace hH := hH.pick [0] (Hs' := [_]) rfl
  exact ⟨_, rfl, v_o, N_o, rfl, hO_o, hH⟩







end Go.Proofs.YtnnkgdijaekcfaaGreatDoor
