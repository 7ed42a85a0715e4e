/- Layer 6 (tree): levels and roots; awake. -/
import Derived.Test.YtnnkgdijaekcfaaGreatDoorCb
namespace Go.Proofs.YtnnkgdijaekcfaaGreatDoor
open Go
set_option linter.unusedVariables false
set_option linter.unusedSimpArgs false
set_option maxRecDepth 100000

theorem right_any {w0 : World} (m : Nat) (hm : m ≤ 10) :
    Calls Tryz.prog 91 #[I ((2 ^ m : Nat) : Int)] w0 (Ret fun r w' => r = .bool true ∧ HS [] w0 w' []) := by
 have hH := HS.start w0
 refine start (n := 16) (E := [(0, _)]) Tryz.func91 rfl rfl rfl (args_look rfl) ?_
 intro a hA
 have hq2 := pow_le hm
 have hq1 : 1 ≤ 2 ^ m := Nat.pow_pos (by decide)
 have hq3 := pow_and m hm
 obtain ⟨q, hq⟩ : ∃ q, q = 2 ^ m := ⟨_, rfl⟩
 rw [← hq] at hA hq1 hq2 hq3
 refine wp_seq_k fun K1 hK1 => ?_
 refine wp_region_lit ?_
 refine asg hA fun a hA => ?_
 refine wpList_nil ?_
 refine hK1 _ _ ?_
 clear hK1
 refine wp_seq_k fun K2 hK2 => ?_
 refine wp_region_lit ?_
 refine mv hA fun a hA => ?_
 refine sq hA (Runs.bt (q_gtrI (n := 0) rfl rfl) (by omega)) rfl fun a hA => ?_
 refine mv hA fun a hA => ?_
 refine gq hA rfl rfl (q_move rfl) rfl fun a hA => ?_
 refine gq hA rfl rfl (Runs.bt (q_leqI (n := 1024) rfl rfl) (by omega)) rfl fun a hA => ?_
 refine sq hA (q_pick_t rfl rfl) rfl fun a hA => ?_
 refine mv hA fun a hA => ?_
 refine gq hA rfl rfl (q_move rfl) rfl fun a hA => ?_
 refine gq hA rfl rfl (q_move rfl) rfl fun a hA => ?_
 refine gq hA rfl rfl (q_subI (n := 1) rfl rfl (by omega)) rfl fun a hA => ?_
 rw [show ((q : Nat) : Int) - 1 = ((q - 1 : Nat) : Int) by omega] at hA
 refine gq hA rfl rfl (q_andI rfl rfl (by omega) (by omega)) rfl fun a hA => ?_
 rw [hq3] at hA
 refine gq hA rfl rfl (Runs.bt (q_eqlI (n := 0) rfl rfl) (by rfl)) rfl fun a hA => ?_
 refine sq hA (q_pick_t rfl rfl) rfl fun a hA => ?_
 refine asg hA fun a hA => ?_
 refine wpList_nil ?_
 refine hK2 _ _ ?_
 clear hK2
 replace hA := hA.s1 2
 refine wp_ret ?_
 refine post_ret hA (res_1 rfl hA rfl) ?_
 exact ⟨_, rfl, rfl, hH⟩

theorem level_any {w0 : World} {lv : Nat} (hg : Gl lv w0) (v : Value) (ls : List Bs) (hd : Dg ls) (hr : RdD [] w0 v ls) (hl : ls.length ≤ 1024) :
    Calls Tryz.prog 92 #[v] w0 (Ret fun r w' => ∃ v' N, v' = r ∧ OwD 25 v' (lvl ls) N ∧ HS [] w0 w' [N]) := by
 have hH := HS.start w0
 refine start (n := 31) (E := [(0, _)]) Tryz.func92 rfl rfl rfl (args_look rfl) ?_
 intro a hA
 refine wp_seq_k fun K1 hK1 => ?_
 refine wp_region_lit ?_
 refine asg hA fun a hA => ?_
 refine wpList_nil ?_
 refine hK1 _ _ ?_
 clear hK1
 refine wp_seq_k fun K2 hK2 => ?_
 refine wp_region_lit ?_
 refine mv hA fun a hA => ?_
 refine sq hA (q_len Tryz.underlying69 rfl (Rd.shp hr)) rfl fun a hA => ?_
 refine sq hA (q_quoI (n := 2) rfl rfl (by omega)) rfl fun a hA => ?_
 rw [show ((ls.length : Int) / 2) = ((ls.length / 2 : Nat) : Int) by omega] at hA
 refine sl hA (lo_make (n := ls.length / 2) hH Tryz.underlying69 ti25 rfl rfl rfl (rfl) (by omega) (by omega)) rfl ?_
 clear hH; rintro v_t8 w ⟨N_t8, hO_t8, hH⟩ a hA
 replace hO_t8 : OwD 25 v_t8 (lvlTo ls 0) N_t8 := mk_lvl0 hO_t8 rfl
 refine asg hA fun a hA => ?_
 refine wpList_nil ?_
 refine hK2 _ _ ?_
 clear hK2
 replace hA := hA.s3 3 2 0
 refine wp_seq_k fun K3 hK3 => ?_
 refine wp_seq_k fun K4 hK4 => ?_
 refine wp_region_lit ?_
 refine mv hA fun a hA => ?_
 refine sq hA (q_len Tryz.underlying69 rfl (Own.shp hO_t8)) rfl fun a hA => ?_
 rw [show (((lvlTo ls 0).length : Nat) : Int) = ((ls.length / 2 : Nat) : Int) by rw [lvlTo_length ls (Nat.zero_le _)]] at hA
 refine mv hA fun a hA => ?_
 refine wpList_nil ?_
 refine hK4 _ _ ?_
 clear hK4
 replace hA := hA.s5 11 10 3 2 0
 refine wp_block ?_
 refine wp_loop_ghost (fun gm a w => ∃ i : Nat, ∃ N_t8 : Hl, At 31 [(11, I i), (10, I ((ls.length / 2 : Nat) : Int)), (3, v_t8), (2, (.slice none 0 0)), (0, v)] a ∧ HS [] w0 w ([N_t8]) ∧ (i ≤ ls.length / 2) ∧ (OwD 25 v_t8 (lvlTo ls i) N_t8) ∧ gm = ls.length / 2 - i) (ls.length / 2 - (0)) ⟨0, N_t8, hA.sub ⟨rfl, rfl, rfl, rfl, rfl, trivial⟩, hH, by omega, by exact hO_t8, rfl⟩ ?_
 clear hA hH
 rintro gm a w ⟨i, N_t8, hA, hH, hi, hO_t8, rfl⟩
 refine wp_seq_k fun K5 hK5 => ?_
 refine wp_region_lit ?_
 refine sq hA (q_lssI rfl rfl) rfl fun a hA => ?_
 refine wpList_nil ?_
 refine hK5 _ _ ?_
 clear hK5
 refine wp_seq_k fun K6 hK6 => ?_
 refine cond_d hA rfl (fun hc12 => ?_) (fun hc12 => ?_)
 ·skip
  refine wp_skip ?_
  refine hK6 _ _ ?_
  clear hK6
  refine wp_seq_k fun K7 hK7 => ?_
  refine wp_block ?_
  refine wp_seq_k fun K8 hK8 => ?_
  refine wp_region_lit ?_
  refine mv hA fun a hA => ?_
  refine asg hA fun a hA => ?_
  refine wpList_nil ?_
  refine hK8 _ _ ?_
  clear hK8
  refine any_go mixed (fun j => !(Nat.beq j 13 || Nat.beq j 15)) hH ?_
  clear hH; intro w hH
  have hS := hH
  refine any_l 16 ?_
  refine p0 hA 0 1 rfl (fun w => (q_move rfl)) fun a hA => ?_
  refine p0 hA 1 3 rfl (fun w => (q_move rfl)) fun a hA => ?_
  refine p0 hA 2 7 rfl (fun w => (q_move rfl)) fun a hA => ?_
  refine p0 hA 3 15 rfl (fun w => (q_move rfl)) fun a hA => ?_
  refine p0 hA 4 31 rfl (fun w => (q_mulI (m := 2) rfl rfl (by omega))) fun a hA => ?_
  refine p0 hA 5 63 rfl (fun w => (q_idxk (2 * i) Tryz.underlying69 ti25 rfl rfl (by first | omega | rfl) (Rd.shp hr) (by first | omega | (simp; done) | (simp; omega) | (rw [List.length_map]; assumption) | assumption | rfl | (simp [*]; done) | (simp [*]; omega)))) fun a hA => ?_
  refine r0 hA 6 127 rfl hS (fun w hH => (q_loadRA (i := 2 * i) Tryz.underlying25 rfl ti25 rfl (hH.rd hr) (by omega) _ (dc_at hd (by omega)))) fun a hA => ?_
  refine p0 hA 7 255 rfl (fun w => (q_move rfl)) fun a hA => ?_
  refine p0 hA 8 511 rfl (fun w => (q_move rfl)) fun a hA => ?_
  refine p0 hA 9 1023 rfl (fun w => (q_mulI (m := 2) rfl rfl (by omega))) fun a hA => ?_
  refine p0 hA 10 2047 rfl (fun w => (q_addI (n := 1) rfl rfl (by omega))) fun a hA => ?_
  refine p0 hA 11 4095 rfl (fun w => (q_idxk (2 * i + 1) Tryz.underlying69 ti25 rfl rfl (by first | omega | rfl) (Rd.shp hr) (by first | omega | (simp; done) | (simp; omega) | (rw [List.length_map]; assumption) | assumption | rfl | (simp [*]; done) | (simp [*]; omega)))) fun a hA => ?_
  refine r0 hA 12 8191 rfl hS (fun w hH => (q_loadRA (i := 2 * i + 1) Tryz.underlying25 rfl ti25 rfl (hH.rd hr) (by omega) _ (dc_at hd (by omega)))) fun a hA => ?_
  refine a1n hA 13 16383 rfl (lo_call fn116 rfl (above_any (hg.mono0 hH) (ls.getD (2 * i) []) (ls.getD (2 * i + 1) []) (hd.getD (by omega)) (hd.getD (by omega)))) ?_
  rintro _ w ⟨rfl, hC⟩
  replace hH := HS.call0 hH hC
  clear hC
  intro a hA
  refine p0 hA 14 32767 rfl (fun w => (q_idxk (i) Tryz.underlying69 ti25 rfl rfl (by first | omega | rfl) (Own.shp hO_t8) (by rw [lvlTo_length ls hi]; omega))) fun a hA => ?_
  refine a0n hA 15 65535 rfl (lo_storeD hH hO_t8 (lvlTo_dg ls i) ti25 rfl rfl (by rw [lvlTo_length ls hi]; omega) (by simp)) ?_
  clear hH; rintro _ w ⟨N_t8, hO_t8, hH⟩
  refine a_end (by kernel_rfl) ?_ _
  refine block_normal ?_
  refine hK7 _ _ ?_
  clear hK7
  refine wp_region_lit ?_
  refine sq hA (q_addI (n := 1) rfl rfl (by omega)) rfl fun a hA => ?_
  refine mv hA fun a hA => ?_
  refine wpList_nil ?_
  exact ⟨_, by omega, i + 1, N_t8, hA.sub ⟨rfl, rfl, rfl, rfl, rfl, trivial⟩, hH, by omega, by (rw [lvlTo_set ls (by omega)] at hO_t8; exact hO_t8), rfl⟩
 ·skip
  obtain rfl : i = ls.length / 2 := by omega
  rw [lvlTo_end] at hO_t8
  refine wp_exit ?_
  refine then_exit ?_
  refine then_exit ?_
  refine exit_here ?_
  refine hK3 _ _ ?_
  clear hK3
  replace hA := hA.s2 3 2
  refine wp_seq_k fun K9 hK9 => ?_
  refine wp_region_lit ?_
  refine mv hA fun a hA => ?_
  refine asg hA fun a hA => ?_
  refine wpList_nil ?_
  refine hK9 _ _ ?_
  clear hK9
  replace hA := hA.s1 2
  refine wp_ret ?_
  refine post_ret hA (res_1 rfl hA rfl) ?_
  exact ⟨_, rfl, v_t8, N_t8, rfl, hO_t8, hH⟩

theorem root_any {w0 : World} {lv : Nat} (hg : Gl lv w0) (v : Value) (ls : List Bs) (hd : Dg ls) (hr : RdD [] w0 v ls) (m : Nat) (hm : m ≤ 10) (hls : ls.length = 2 ^ m) :
    Calls Tryz.prog 52 #[v] w0 (Ret fun r w' => r = .tuple #[.agg (((lvls ls m).getD 0 []).map B8).toArray, I 0] ∧ HS [] w0 w' []) := by
 have hH := HS.start w0
 refine start (n := 19) (E := [(0, _)]) Tryz.func52 rfl rfl rfl (args_look rfl) ?_
 intro a hA
 have hrt : ((lvls ls m).getD 0 []).length = 32 := (lvls_dg hd m).getD (by rw [lvls_length hls (Nat.le_refl _)]; simp)
 have hrt2 := hrt
 simp only [List.getD_eq_getElem?_getD] at hrt2
 refine wp_seq_k fun K1 hK1 => ?_
 refine wp_region_lit ?_
 refine sl hA (lo_allocA hH ti25) rfl ?_
 clear hH; rintro _ w ⟨b_t2, rfl, hH⟩ a hA
 refine asg hA fun a hA => ?_
 refine wpList_nil ?_
 refine hK1 _ _ ?_
 clear hK1
 refine wp_seq_k fun K2 hK2 => ?_
 refine wp_seq_k fun K3 hK3 => ?_
 refine wp_region_lit ?_
 refine mv hA fun a hA => ?_
 refine sq hA (q_len Tryz.underlying69 rfl (Rd.shp hr)) rfl fun a hA => ?_
 rw [hls] at hA
 refine sl hA (lo_call fn91 rfl (right_any m hm)) rfl ?_
 rintro _ w ⟨rfl, hC⟩ a hA
 replace hH := HS.call0 hH hC
 clear hC
 refine sq hA (q_not rfl) rfl fun a hA => ?_
 refine wpList_nil ?_
 refine hK3 _ _ ?_
 clear hK3
 replace hA := hA.s4 8 3 2 0
 refine cond_f hA rfl ?_
 refine wp_skip ?_
 refine hK2 _ _ ?_
 clear hK2
 replace hA := hA.s3 3 2 0
 refine wp_seq_k fun K4 hK4 => ?_
 refine wp_region_lit ?_
 refine mv hA fun a hA => ?_
 refine asg hA fun a hA => ?_
 refine wpList_nil ?_
 refine hK4 _ _ ?_
 clear hK4
 replace hA := hA.s3 4 3 2
 refine wp_seq_k fun K5 hK5 => ?_
 refine wp_block ?_
 replace hH := HS.fold [] [_] hH
 obtain ⟨NR6, hNR6, hH⟩ := hH
 refine wp_loop_ghost (fun gm a w => ∃ j : Nat, ∃ v_l : Value, At 19 [(4, v_l), (3, I 0), (2, (.pointer (some ⟨b_t2, 0, none⟩)))] a ∧ HS [] w0 w ([NR6]) ∧ (j ≤ m) ∧ (RdD [] w v_l (lvls ls j)) ∧ gm = m - j) (m - (0)) ⟨0, v, hA.sub ⟨rfl, rfl, rfl, trivial⟩, hH, by omega, by exact hH.rd hr, rfl⟩ ?_
 clear hA hH
 rintro gm a w ⟨j, v_l, hA, hH, hj, hrl, rfl⟩
 have hlj := lvls_length hls hj
 have hpj := pow_le (m := m - j) (by omega)
 refine wp_seq_k fun K7 hK7 => ?_
 refine wp_seq_k fun K8 hK8 => ?_
 refine wp_region_lit ?_
 refine mv hA fun a hA => ?_
 refine sq hA (q_len Tryz.underlying69 rfl (Rd.shp hrl)) rfl fun a hA => ?_
 refine sq hA (q_gtrI (n := 1) rfl rfl) rfl fun a hA => ?_
 refine wpList_nil ?_
 refine hK8 _ _ ?_
 clear hK8
 refine cond_d hA rfl (fun hc13 => ?_) (fun hc13 => ?_)
 ·skip
  have hjm : j < m := by rcases Nat.lt_or_ge j m with h | h; exact h; exfalso; rw [show m - j = 0 by omega] at hlj; omega
  refine wp_skip ?_
  refine hK7 _ _ ?_
  clear hK7
  refine wp_block ?_
  refine wp_region_lit ?_
  refine mv hA fun a hA => ?_
  refine sl hA (lo_call fn92 rfl (level_any (hg.mono0 hH) v_l (lvls ls j) (lvls_dg hd j) hrl (by omega))) rfl ?_
  rintro _ w ⟨v_t15, N_t15, rfl, hO_t15, hC⟩ a hA
  replace hH := HS.call0 hH hC
  clear hC
  refine asg hA fun a hA => ?_
  refine wpList_nil ?_
  refine block_normal ?_
  have hrl' : RdD [] w v_t15 (lvls ls (j + 1)) := Own.rd0 hO_t15 hH 0 rfl
  replace hH := hH.pick [1, 0] (Hs' := [_, _]) rfl
  replace hH := hH.pick [0] (Hs' := [_]) rfl
  exact ⟨_, by omega, j + 1, v_t15, hA.sub ⟨rfl, rfl, rfl, trivial⟩, hH, by omega, by exact hrl', rfl⟩
 ·skip
  have hje : j = m := by have := pow_one (k := m - j) (by omega); omega
  rw [hje] at hrl
  have hl0 : 0 < (lvls ls m).length := by rw [lvls_length hls (Nat.le_refl _)]; exact Nat.pow_pos (by decide)
  refine wp_exit ?_
  refine then_exit ?_
  replace hH := HS.unfold [] hNR6 hH
  refine then_exit ?_
  refine exit_here ?_
  refine hK5 _ _ ?_
  clear hK5
  replace hA := hA.s3 4 3 2
  refine wp_seq_k fun K9 hK9 => ?_
  refine wp_region_lit ?_
  refine mv hA fun a hA => ?_
  refine sq hA (q_idxk (0) Tryz.underlying69 ti25 rfl rfl (rfl) (Rd.shp hrl) (by first | omega | (simp; done) | (simp; omega) | (rw [List.length_map]; assumption) | assumption | rfl | (simp [*]; done) | (simp [*]; omega))) rfl fun a hA => ?_
  refine sq hA (q_loadRA (i := 0) Tryz.underlying25 rfl ti25 rfl hrl (by omega) _ (dc_at (lvls_dg hd m) (by omega))) rfl fun a hA => ?_
  refine s0 hA (lo_storeAm hH ti25 rfl rfl (by first | rfl | (simp; done) | (rw [List.length_map]; exact hrt) | exact hrt) (by first | rfl | (simp; done) | (rw [List.length_map]; exact hrt) | exact hrt) (one_B8 _)) ?_
  clear hH; rintro _ w hH
  refine asg hA fun a hA => ?_
  refine wpList_nil ?_
  refine hK9 _ _ ?_
  clear hK9
  replace hA := hA.s2 3 2
  refine wp_ret ?_
  refine post_ret hA (res_c1 rfl hA rfl rfl (resW hH 0 rfl Tryz.underlying25 rfl ti25 (by rw [List.length_map]; exact hrt))) ?_
  replace hH := hH.pick [] (Hs' := []) rfl
  exact ⟨_, rfl, rfl, hH⟩



end Go.Proofs.YtnnkgdijaekcfaaGreatDoor
