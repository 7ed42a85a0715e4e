/- Layer 6 (tree): roots and paths of whatever digests, the program's and the document's. -/
import Derived.Test.YtipjpbfledddaaaDoorCc
import Derived.Test.YtipjpbfledddaaaDoorMw
import Derived.Test.YtipjpbfledddaaaDoorMx
import Derived.Test.YtipjpbfledddaaaDoorCs
namespace Go.Proofs.YtipjpbfledddaaaDoor
open Go
set_option linter.unusedVariables false
set_option linter.unusedSimpArgs false
set_option maxRecDepth 100000

theorem refright_yes {w0 : World} (m : Nat) (hm : m ≤ 10) :
    Calls Tryd.prog 78 #[I ((2 ^ m : Nat) : Int)] w0 (Ret fun r w' => r = .bool true ∧ HS [] w0 w' []) := by
  have hH := HS.start w0
  refine start (n := 11) (E := [(0, _)]) Tryd.func78 rfl rfl rfl (args_look rfl) ?_
  intro a hA
  refine wp_seq_k fun K1 hK1 => ?_
  refine wp_region_lit ?_
  refine sq hA (q_assign rfl) rfl fun a hA => ?_
  refine wpList_nil ?_
  refine hK1 _ _ ?_
  clear hK1
  refine wp_seq_k fun K2 hK2 => ?_
  refine wp_seq_k fun K3 hK3 => ?_
  refine wp_region_lit ?_
  refine sq hA (q_assign rfl) rfl fun a hA => ?_
  refine wpList_nil ?_
  refine hK3 _ _ ?_
  clear hK3
  refine wp_block ?_
  refine wp_loop_ghost (fun gm a w => ∃ j : Nat, At 11 [(3, I ((2 ^ j : Nat) : Int)), (2, (.bool false)), (0, I ((2 ^ m : Nat) : Int))] a ∧ HS [] w0 w ([]) ∧ (j ≤ m) ∧ gm = m - j) (m - (0)) ⟨0, hA.sub ⟨rfl, rfl, rfl, trivial⟩, hH, by omega, rfl⟩ ?_
  clear hA hH
  rintro gm a w ⟨j, hA, hH, hj, rfl⟩
  have hjp := pow_le (m := j) (by omega)
  have hj0 := Nat.pow_pos (n := j) (show 0 < 2 by decide)
  refine wp_seq_k fun K4 hK4 => ?_
  refine wp_seq_k fun K5 hK5 => ?_
  refine wp_region_lit ?_
  refine sq hA (q_move rfl) rfl fun a hA => ?_
  refine sq hA (q_leqI (n := 1024) rfl rfl) rfl fun a hA => ?_
  refine wpList_nil ?_
  refine hK5 _ _ ?_
  clear hK5
  refine cond_d hA rfl (fun _ => ?_) (fun hnn => absurd (by omega) hnn)
  refine wp_skip ?_
  refine hK4 _ _ ?_
  clear hK4
  refine wp_seq_k fun K6 hK6 => ?_
  refine wp_block ?_
  refine wp_seq_k fun K7 hK7 => ?_
  refine wp_region_lit ?_
  refine sq hA (q_move rfl) rfl fun a hA => ?_
  refine sq hA (q_move rfl) rfl fun a hA => ?_
  refine sq hA (q_eqlI rfl rfl) rfl fun a hA => ?_
  refine wpList_nil ?_
  refine hK7 _ _ ?_
  clear hK7
  refine cond_d hA rfl (fun hc10 => ?_) (fun hc10 => ?_)
  · skip
    refine wp_seq_k fun K8 hK8 => ?_
    refine wp_region_lit ?_
    refine sq hA (q_assign rfl) rfl fun a hA => ?_
    refine wpList_nil ?_
    refine hK8 _ _ ?_
    clear hK8
    refine wp_ret ?_
    refine block_ret ?_
    refine then_ret ?_
    refine then_ret ?_
    refine block_ret ?_
    refine then_ret ?_
    refine post_ret hA (res_1 rfl hA rfl) ?_
    exact ⟨_, rfl, rfl, hH⟩
  · skip
    have hjm : j ≠ m := fun e => hc10 (by rw [e])
    refine wp_skip ?_
    refine block_normal ?_
    refine hK6 _ _ ?_
    clear hK6
    refine wp_region_lit ?_
    refine sq hA (q_move rfl) rfl fun a hA => ?_
    refine sq hA (q_mulI (m := 2) rfl rfl (by omega)) rfl fun a hA => ?_
    rw [show (2 : Int) * ((2 ^ j : Nat) : Int) = ((2 ^ (j + 1) : Nat) : Int) by rw [Nat.pow_succ]; omega] at hA
    refine sq hA (q_assign rfl) rfl fun a hA => ?_
    refine wpList_nil ?_
    exact ⟨_, by omega, j + 1, hA.sub ⟨rfl, rfl, rfl, trivial⟩, hH, by omega, rfl⟩

theorem refright_no {w0 : World} (n : Nat) (hn : ¬ Pw n) :
    Calls Tryd.prog 78 #[I n] w0 (Ret fun r w' => r = .bool false ∧ HS [] w0 w' []) := by
  have hH := HS.start w0
  refine start (n := 11) (E := [(0, _)]) Tryd.func78 rfl rfl rfl (args_look rfl) ?_
  intro a hA
  refine wp_seq_k fun K1 hK1 => ?_
  refine wp_region_lit ?_
  refine sq hA (q_assign rfl) rfl fun a hA => ?_
  refine wpList_nil ?_
  refine hK1 _ _ ?_
  clear hK1
  refine wp_seq_k fun K2 hK2 => ?_
  refine wp_seq_k fun K3 hK3 => ?_
  refine wp_region_lit ?_
  refine sq hA (q_assign rfl) rfl fun a hA => ?_
  refine wpList_nil ?_
  refine hK3 _ _ ?_
  clear hK3
  refine wp_block ?_
  refine wp_loop_ghost (fun gm a w => ∃ j : Nat, At 11 [(3, I ((2 ^ j : Nat) : Int)), (2, (.bool false)), (0, I n)] a ∧ HS [] w0 w ([]) ∧ (j ≤ 11) ∧ gm = 11 - j) (11 - (0)) ⟨0, hA.sub ⟨rfl, rfl, rfl, trivial⟩, hH, by omega, rfl⟩ ?_
  clear hA hH
  rintro gm a w ⟨j, hA, hH, hj, rfl⟩
  have hjp := Nat.pow_le_pow_right (n := 2) (by decide) hj
  have hj0 := Nat.pow_pos (n := j) (show 0 < 2 by decide)
  refine wp_seq_k fun K4 hK4 => ?_
  refine wp_seq_k fun K5 hK5 => ?_
  refine wp_region_lit ?_
  refine sq hA (q_move rfl) rfl fun a hA => ?_
  refine sq hA (q_leqI (n := 1024) rfl rfl) rfl fun a hA => ?_
  refine wpList_nil ?_
  refine hK5 _ _ ?_
  clear hK5
  refine cond_d hA rfl (fun hc5 => ?_) (fun hc5 => ?_)
  · skip
    have hj10 := pow_le10 (j := j) (by omega)
    refine wp_skip ?_
    refine hK4 _ _ ?_
    clear hK4
    refine wp_seq_k fun K6 hK6 => ?_
    refine wp_block ?_
    refine wp_seq_k fun K7 hK7 => ?_
    refine wp_region_lit ?_
    refine sq hA (q_move rfl) rfl fun a hA => ?_
    refine sq hA (q_move rfl) rfl fun a hA => ?_
    refine sq hA (q_eqlI rfl rfl) rfl fun a hA => ?_
    refine wpList_nil ?_
    refine hK7 _ _ ?_
    clear hK7
    refine cond_d hA rfl (fun hnn => absurd hnn (fun e => hn ⟨j, hj10, by omega⟩)) (fun _ => ?_)
    refine wp_skip ?_
    refine block_normal ?_
    refine hK6 _ _ ?_
    clear hK6
    refine wp_region_lit ?_
    refine sq hA (q_move rfl) rfl fun a hA => ?_
    refine sq hA (q_mulI (m := 2) rfl rfl (by omega)) rfl fun a hA => ?_
    rw [show (2 : Int) * ((2 ^ j : Nat) : Int) = ((2 ^ (j + 1) : Nat) : Int) by rw [Nat.pow_succ]; omega] at hA
    refine sq hA (q_assign rfl) rfl fun a hA => ?_
    refine wpList_nil ?_
    exact ⟨_, by omega, j + 1, hA.sub ⟨rfl, rfl, rfl, trivial⟩, hH, by omega, rfl⟩
  · skip
    refine wp_exit ?_
    refine then_exit ?_
    refine then_exit ?_
    refine exit_here ?_
    refine hK2 _ _ ?_
    clear hK2
    replace hA := hA.sub (E' := [(2, _)]) ⟨rfl, trivial⟩
    refine wp_seq_k fun K8 hK8 => ?_
    refine wp_region_lit ?_
    refine sq hA (q_assign rfl) rfl fun a hA => ?_
    refine wpList_nil ?_
    refine hK8 _ _ ?_
    clear hK8
    refine wp_ret ?_
    refine post_ret hA (res_1 rfl hA rfl) ?_
    exact ⟨_, rfl, rfl, hH⟩

theorem right_no {w0 : World} (n : Nat) (hn : ¬ Pw n) :
    Calls Tryd.prog 76 #[I n] w0 (Ret fun r w' => r = .bool false ∧ HS [] w0 w' []) := by
  have hH := HS.start w0
  refine start (n := 16) (E := [(0, _)]) Tryd.func76 rfl rfl rfl (args_look rfl) ?_
  intro a hA
  refine wp_seq_k fun K1 hK1 => ?_
  refine wp_region_lit ?_
  refine sq hA (q_assign rfl) rfl fun a hA => ?_
  refine wpList_nil ?_
  refine hK1 _ _ ?_
  clear hK1
  refine wp_seq_k fun K2 hK2 => ?_
  refine wp_region_lit ?_
  refine sq hA (q_move rfl) rfl fun a hA => ?_
  rcases Classical.em (0 < n) with hs4 | hs4
  · skip
    refine sq hA (Runs.bt (q_gtrI (n := 0) rfl rfl) (by omega)) rfl fun a hA => ?_
    refine sq hA (q_move rfl) rfl fun a hA => ?_
    refine gq hA rfl rfl (q_move rfl) rfl fun a hA => ?_
    rcases Classical.em (n ≤ 1024) with hs7 | hs7
    · skip
      refine gq hA rfl rfl (Runs.bt (q_leqI (n := 1024) rfl rfl) (by omega)) rfl fun a hA => ?_
      refine sq hA (q_pick_t rfl rfl) rfl fun a hA => ?_
      refine sq hA (q_move rfl) rfl fun a hA => ?_
      refine gq hA rfl rfl (q_move rfl) rfl fun a hA => ?_
      refine gq hA rfl rfl (q_move rfl) rfl fun a hA => ?_
      refine gq hA rfl rfl (q_subI (n := 1) rfl rfl (by omega)) rfl fun a hA => ?_
      rw [show ((n : Nat) : Int) - 1 = ((n - 1 : Nat) : Int) by omega] at hA
      refine gq hA rfl rfl (q_andI rfl rfl (by omega) (by omega)) rfl fun a hA => ?_
      refine gq hA rfl rfl (Runs.bf (q_eqlI (n := 0) rfl rfl) (by intro e; obtain ⟨m, h1, h2⟩ := pow_of_and (n := n) (by omega) (by omega) (by omega); exact hn ⟨m, h1, h2⟩)) rfl fun a hA => ?_
      refine sq hA (q_pick_t rfl rfl) rfl fun a hA => ?_
      refine sq hA (q_assign rfl) rfl fun a hA => ?_
      refine wpList_nil ?_
      refine hK2 _ _ ?_
      clear hK2
      replace hA := hA.sub (E' := [(2, _)]) ⟨rfl, trivial⟩
      refine wp_ret ?_
      refine post_ret hA (res_1 rfl hA rfl) ?_
      exact ⟨_, rfl, rfl, hH⟩
    · skip
      refine gq hA rfl rfl (Runs.bf (q_leqI (n := 1024) rfl rfl) (by omega)) rfl fun a hA => ?_
      refine sq hA (q_pick_t rfl rfl) rfl fun a hA => ?_
      refine sq hA (q_move rfl) rfl fun a hA => ?_
      refine gs hA rfl rfl rfl rfl fun a hA => ?_
      refine gs hA rfl rfl rfl rfl fun a hA => ?_
      refine gs hA rfl rfl rfl rfl fun a hA => ?_
      refine gs hA rfl rfl rfl rfl fun a hA => ?_
      refine gs hA rfl rfl rfl rfl fun a hA => ?_
      refine sq hA (q_pick_f rfl rfl) rfl fun a hA => ?_
      refine sq hA (q_assign rfl) rfl fun a hA => ?_
      refine wpList_nil ?_
      refine hK2 _ _ ?_
      clear hK2
      replace hA := hA.sub (E' := [(2, _)]) ⟨rfl, trivial⟩
      refine wp_ret ?_
      refine post_ret hA (res_1 rfl hA rfl) ?_
      exact ⟨_, rfl, rfl, hH⟩
  · skip
    refine sq hA (Runs.bf (q_gtrI (n := 0) rfl rfl) (by omega)) rfl fun a hA => ?_
    refine sq hA (q_move rfl) rfl fun a hA => ?_
    refine gs hA rfl rfl rfl rfl fun a hA => ?_
    refine gs hA rfl rfl rfl rfl fun a hA => ?_
    refine sq hA (q_pick_f rfl rfl) rfl fun a hA => ?_
    refine sq hA (q_move rfl) rfl fun a hA => ?_
    refine gs hA rfl rfl rfl rfl fun a hA => ?_
    refine gs hA rfl rfl rfl rfl fun a hA => ?_
    refine gs hA rfl rfl rfl rfl fun a hA => ?_
    refine gs hA rfl rfl rfl rfl fun a hA => ?_
    refine gs hA rfl rfl rfl rfl fun a hA => ?_
    refine sq hA (q_pick_f rfl rfl) rfl fun a hA => ?_
    refine sq hA (q_assign rfl) rfl fun a hA => ?_
    refine wpList_nil ?_
    refine hK2 _ _ ?_
    clear hK2
    replace hA := hA.sub (E' := [(2, _)]) ⟨rfl, trivial⟩
    refine wp_ret ?_
    refine post_ret hA (res_1 rfl hA rfl) ?_
    exact ⟨_, rfl, rfl, hH⟩

theorem root_bad {w0 : World} (v : Value) (ls : List Bs) (hd : Dg ls) (hr : RdD [] w0 v ls) (hn : ¬ Pw ls.length) :
    Calls Tryd.prog 42 #[v] w0 (Ret fun r w' => r = .tuple #[.agg (((List.replicate 32 0#8)).map B8).toArray, I 1] ∧ HS [] w0 w' []) := by
  have hH := HS.start w0
  refine start (n := 19) (E := [(0, _)]) Tryd.func42 rfl rfl rfl (args_look rfl) ?_
  intro a hA
  refine wp_seq_k fun K1 hK1 => ?_
  refine wp_region_lit ?_
  refine sl hA (lo_allocA hH ti23) rfl ?_
  clear hH; rintro _ w ⟨b_t2, rfl, hH⟩ a hA
  refine sq hA (q_assign rfl) rfl fun a hA => ?_
  refine wpList_nil ?_
  refine hK1 _ _ ?_
  clear hK1
  refine wp_seq_k fun K2 hK2 => ?_
  refine wp_seq_k fun K3 hK3 => ?_
  refine wp_region_lit ?_
  refine sq hA (q_move rfl) rfl fun a hA => ?_
  refine sq hA (q_len Tryd.underlying25 rfl (Rd.shp hr)) rfl fun a hA => ?_
  refine sl hA (lo_call fn76 rfl (right_no _ hn)) rfl ?_
  rintro _ w ⟨rfl, hC⟩ a hA
  replace hH := HS.call0 hH hC
  clear hC
  refine sq hA (q_not rfl) rfl fun a hA => ?_
  refine wpList_nil ?_
  refine hK3 _ _ ?_
  clear hK3
  replace hA := hA.sub (E' := [(8, _), (3, _), (2, _), (0, _)]) ⟨rfl, rfl, rfl, rfl, trivial⟩
  refine cond_t hA rfl ?_
  refine wp_seq_k fun K4 hK4 => ?_
  refine wp_region_lit ?_
  refine sq hA (q_build (v := (.agg ((List.replicate 32 0#8).map B8).toArray)) (vs := []) rfl (fun w => by kernel_rfl)) rfl fun a hA => ?_
  refine s0 hA (lo_storeAm hH ti23 rfl rfl (by first | assumption | (rw [List.length_map]; assumption) | rfl | exact sha_length _ | (simp; done) | (simp [*]; done) | omega) (by first | assumption | (rw [List.length_map]; assumption) | rfl | exact sha_length _ | (simp; done) | (simp [*]; done) | omega) (one_B8 _)) ?_
  clear hH; rintro _ w hH
  refine sq hA (q_assign rfl) rfl fun a hA => ?_
  refine wpList_nil ?_
  refine hK4 _ _ ?_
  clear hK4
  replace hA := hA.sub (E' := [(3, _), (2, _), (0, _)]) ⟨rfl, rfl, rfl, trivial⟩
  refine wp_ret ?_
  refine then_ret ?_
  refine post_ret hA (res_c1 rfl hA rfl rfl (resW hH 0 rfl Tryd.underlying23 rfl ti23 (by first | assumption | (rw [List.length_map]; assumption) | rfl | exact sha_length _ | (simp; done) | (simp [*]; done) | omega))) ?_
  replace hH := hH.pick [] (Hs' := []) rfl
  exact ⟨_, rfl, rfl, hH⟩

theorem refrt_zero {w0 : World} (v : Value) (ls : List Bs) (hd : Dg ls) (hr : RdD [] w0 v ls) (hls : ls.length = 1) :
    Calls Tryd.prog 79 #[v] w0 (Ret fun r w' => r = .agg ((rt ls 0).map B8).toArray ∧ HS [] w0 w' []) := by
  have hH := HS.start w0
  refine start (n := 22) (E := [(0, _)]) Tryd.func79 rfl rfl rfl (args_look rfl) ?_
  intro a hA
  have hl0 : (ls.getD 0 []).length = 32 := hd.getD (by omega)
  refine wp_seq_k fun K1 hK1 => ?_
  refine wp_region_lit ?_
  refine sl hA (lo_allocA hH ti23) rfl ?_
  clear hH; rintro _ w ⟨b_t2, rfl, hH⟩ a hA
  refine wpList_nil ?_
  refine hK1 _ _ ?_
  clear hK1
  refine wp_seq_k fun K2 hK2 => ?_
  refine wp_seq_k fun K3 hK3 => ?_
  refine wp_region_lit ?_
  refine sq hA (q_move rfl) rfl fun a hA => ?_
  refine sq hA (q_len Tryd.underlying25 rfl (Rd.shp hr)) rfl fun a hA => ?_
  refine sq hA (Runs.bt (q_eqlI (n := 1) rfl rfl) (by omega)) rfl fun a hA => ?_
  refine wpList_nil ?_
  refine hK3 _ _ ?_
  clear hK3
  replace hA := hA.sub (E' := [(5, _), (2, _), (0, _)]) ⟨rfl, rfl, rfl, trivial⟩
  refine cond_t hA rfl ?_
  refine wp_seq_k fun K4 hK4 => ?_
  refine wp_region_lit ?_
  refine sq hA (q_move rfl) rfl fun a hA => ?_
  refine sq hA (q_idxk (0) Tryd.underlying25 ti23 rfl rfl (rfl) (Rd.shp hr) (by first | omega | (simp; done) | (simp; omega) | (rw [List.length_map]; assumption) | assumption | rfl | (simp [*]; done) | (simp [*]; omega))) rfl fun a hA => ?_
  refine sq hA (q_loadRA (i := 0) Tryd.underlying23 rfl ti23 rfl (hH.rd hr) (by first | omega | (simp; done) | (simp; omega) | (rw [List.length_map]; assumption) | assumption | rfl | (simp [*]; done) | (simp [*]; omega)) _ (dc_at (by assumption) (by first | omega | (simp; done) | (simp; omega) | (rw [List.length_map]; assumption) | assumption | rfl | (simp [*]; done) | (simp [*]; omega)))) rfl fun a hA => ?_
  refine s0 hA (lo_storeAm hH ti23 rfl rfl (by first | omega | (simp; done) | (simp; omega) | (rw [List.length_map]; assumption) | assumption | rfl | (simp [*]; done) | (simp [*]; omega)) (by first | omega | (simp; done) | (simp; omega) | (rw [List.length_map]; assumption) | assumption | rfl | (simp [*]; done) | (simp [*]; omega)) (one_B8 _)) ?_
  clear hH; rintro _ w hH
  refine wpList_nil ?_
  refine hK4 _ _ ?_
  clear hK4
  replace hA := hA.sub (E' := [(2, _), (0, _)]) ⟨rfl, rfl, trivial⟩
  refine wp_ret ?_
  refine then_ret ?_
  refine post_ret hA (res_c rfl hA rfl (resW hH 0 rfl Tryd.underlying23 rfl ti23 (by first | assumption | (rw [List.length_map]; assumption) | rfl | exact sha_length _ | (simp; done) | (simp [*]; done) | omega))) ?_
  replace hH := hH.pick [] (Hs' := []) rfl
  exact ⟨_, rfl, rfl, hH⟩

theorem refrt_step {w0 : World} {lv : Nat} (hg : Gl (lv + 2) w0) (m : Nat) (ih : ∀ {w0 : World} (v : Value) (ls : List Bs), Gl (lv + 2) w0 → Dg ls → RdD [] w0 v ls → ls.length = 2 ^ m → Calls Tryd.prog 79 #[v] w0 (Ret fun r w' => r = .agg ((rt ls m).map B8).toArray ∧ HS [] w0 w' [])) (v : Value) (ls : List Bs) (hd : Dg ls) (hr : RdD [] w0 v ls) (hls : ls.length = 2 ^ (m + 1)) (hm : m ≤ 10) :
    Calls Tryd.prog 79 #[v] w0 (Ret fun r w' => r = .agg ((rt ls (m + 1)).map B8).toArray ∧ HS [] w0 w' []) := by
  have hH := HS.start w0
  refine start (n := 22) (E := [(0, _)]) Tryd.func79 rfl rfl rfl (args_look rfl) ?_
  intro a hA
  have hpm := pow_le hm
  have hp2 : 2 ^ (m + 1) = 2 * 2 ^ m := by rw [Nat.pow_succ]; omega
  have hpos := Nat.pow_pos (n := m) (show 0 < 2 by decide)
  have hkt : (ls.take (2 ^ m)).length = 2 ^ m := by rw [List.length_take]; omega
  have hkd : (ls.drop (2 ^ m)).length = 2 ^ m := by rw [List.length_drop]; omega
  have hra := rt_length (hd.take (2 ^ m)) hkt
  have hrb := rt_length (hd.drop (2 ^ m)) hkd
  have hdt := hd.take (2 ^ m)
  have hdd := hd.drop (2 ^ m)
  refine wp_seq_k fun K1 hK1 => ?_
  refine wp_region_lit ?_
  refine sl hA (lo_allocA hH ti23) rfl ?_
  clear hH; rintro _ w ⟨b_t2, rfl, hH⟩ a hA
  refine wpList_nil ?_
  refine hK1 _ _ ?_
  clear hK1
  refine wp_seq_k fun K2 hK2 => ?_
  refine wp_seq_k fun K3 hK3 => ?_
  refine wp_region_lit ?_
  refine sq hA (q_move rfl) rfl fun a hA => ?_
  refine sq hA (q_len Tryd.underlying25 rfl (Rd.shp hr)) rfl fun a hA => ?_
  refine sq hA (Runs.bf (q_eqlI (n := 1) rfl rfl) (by omega)) rfl fun a hA => ?_
  refine wpList_nil ?_
  refine hK3 _ _ ?_
  clear hK3
  replace hA := hA.sub (E' := [(5, _), (2, _), (0, _)]) ⟨rfl, rfl, rfl, trivial⟩
  refine cond_f hA rfl ?_
  refine wp_skip ?_
  refine hK2 _ _ ?_
  clear hK2
  replace hA := hA.sub (E' := [(2, _), (0, _)]) ⟨rfl, rfl, trivial⟩
  refine wp_seq_k fun K4 hK4 => ?_
  refine any_go mixed (fun j => !(Nat.beq j 5 || Nat.beq j 11 || Nat.beq j 12 || Nat.beq j 13)) hH ?_
  clear hH; intro w hH
  have hS := hH
  change wpK _ _ _ _ _ _ 14 #[false, false, false, false, false, false, false, false, false, false, false, false, false, false] _ _
  refine apq hA 0 rfl (by kernel_rfl) (by intro c a d v w h; cases d <;> exact h) (fun w => (q_move rfl)) rfl (listed' := #[true, false, false, false, false, false, false, false, false, false, false, false, false, false]) rfl fun a hA => ?_
  refine apq hA 1 rfl (by kernel_rfl) (by intro c a d v w h; cases d <;> exact h) (fun w => (q_move rfl)) rfl (listed' := #[true, true, false, false, false, false, false, false, false, false, false, false, false, false]) rfl fun a hA => ?_
  refine apq hA 2 rfl (by kernel_rfl) (by intro c a d v w h; cases d <;> exact h) (fun w => (q_len Tryd.underlying25 rfl (Rd.shp hr))) rfl (listed' := #[true, true, true, false, false, false, false, false, false, false, false, false, false, false]) rfl fun a hA => ?_
  refine apq hA 3 rfl (by kernel_rfl) (by intro c a d v w h; cases d <;> exact h) (fun w => (q_quoI (n := 2) rfl rfl (by omega))) rfl (listed' := #[true, true, true, true, false, false, false, false, false, false, false, false, false, false]) rfl fun a hA => ?_
  rw [show ((ls.length : Int) / 2) = ((2 ^ m : Nat) : Int) by rw [hls, Nat.pow_succ]; omega] at hA
  obtain ⟨v_t13, hv_t13, hO_t13⟩ := RdD.cut0 hr (by assumption) (2 ^ m) (by first | omega | (simp; omega) | (simp [*]; omega))
  refine apq hA 4 rfl (by kernel_rfl) (by intro c a d v w h; cases d <;> exact h) (fun w => (q_slice Tryd.underlying25 ti23 rfl (0) (2 ^ m) hv_t13 (Rd.shp hr) rfl rfl (rfl) (rfl) (by first | omega | (simp; omega) | (simp [*]; omega)) (by first | omega | (simp; omega) | (simp [*]; omega)))) rfl (listed' := #[true, true, true, true, true, false, false, false, false, false, false, false, false, false]) rfl fun a hA => ?_
  refine apq hA 6 rfl (by kernel_rfl) (by intro c a d v w h; cases d <;> exact h) (fun w => (q_move rfl)) rfl (listed' := #[true, true, true, true, true, false, true, false, false, false, false, false, false, false]) rfl fun a hA => ?_
  refine apq hA 7 rfl (by kernel_rfl) (by intro c a d v w h; cases d <;> exact h) (fun w => (q_move rfl)) rfl (listed' := #[true, true, true, true, true, false, true, true, false, false, false, false, false, false]) rfl fun a hA => ?_
  refine apq hA 8 rfl (by kernel_rfl) (by intro c a d v w h; cases d <;> exact h) (fun w => (q_len Tryd.underlying25 rfl (Rd.shp hr))) rfl (listed' := #[true, true, true, true, true, false, true, true, true, false, false, false, false, false]) rfl fun a hA => ?_
  refine apq hA 9 rfl (by kernel_rfl) (by intro c a d v w h; cases d <;> exact h) (fun w => (q_quoI (n := 2) rfl rfl (by omega))) rfl (listed' := #[true, true, true, true, true, false, true, true, true, true, false, false, false, false]) rfl fun a hA => ?_
  rw [show ((ls.length : Int) / 2) = ((2 ^ m : Nat) : Int) by rw [hls, Nat.pow_succ]; omega] at hA
  obtain ⟨v_t19, hv_t19, hO_t19⟩ := RdD.cutE hr (by assumption) (2 ^ m) (by first | omega | (simp; omega) | (simp [*]; omega))
  refine apq hA 10 rfl (by kernel_rfl) (by intro c a d v w h; cases d <;> exact h) (fun w => (q_slice Tryd.underlying25 ti23 rfl (2 ^ m) (_) hv_t19 (Rd.shp hr) rfl rfl (rfl) (by first | rfl | (simp; done) | omega) (by first | omega | (simp; omega) | (simp [*]; omega)) (by first | omega | (simp; omega) | (simp [*]; omega)))) rfl (listed' := #[true, true, true, true, true, false, true, true, true, true, true, false, false, false]) rfl fun a hA => ?_
  refine al hA 5 rfl (by kernel_rfl) (lo_call fn79 rfl (ih _ (ls.take (2 ^ m)) (hg.mono0 hH) hdt (hH.rd hO_t13) hkt)) rfl (listed' := #[true, true, true, true, true, true, true, true, true, true, true, false, false, false]) rfl ?_
  rintro _ w ⟨rfl, hC⟩
  replace hH := HS.call0 hH hC
  clear hC
  refine ⟨fun _ h => absurd h (by decide), ?_⟩
  intro a hA
  refine al hA 11 rfl (by kernel_rfl) (lo_call fn79 rfl (ih _ (ls.drop (2 ^ m)) (hg.mono0 hH) hdd (hH.rd hO_t19) hkd)) rfl (listed' := #[true, true, true, true, true, true, true, true, true, true, true, true, false, false]) rfl ?_
  rintro _ w ⟨rfl, hC⟩
  replace hH := HS.call0 hH hC
  clear hC
  refine ⟨fun _ h => absurd h (by decide), ?_⟩
  intro a hA
  refine al hA 12 rfl (by kernel_rfl) (lo_call fn69 rfl (refabove_any (hg.mono0 hH) _ _ hra hrb)) rfl (listed' := #[true, true, true, true, true, true, true, true, true, true, true, true, true, false]) rfl ?_
  rintro _ w ⟨rfl, hC⟩
  replace hH := HS.call0 hH hC
  clear hC
  refine ⟨fun _ h => absurd h (by decide), ?_⟩
  intro a hA
  refine al0 hA 13 rfl (by kernel_rfl) (lo_storeAm hH ti23 rfl rfl (by first | omega | (simp; done) | (simp; omega) | (rw [List.length_map]; assumption) | assumption | rfl | (simp [*]; done) | (simp [*]; omega)) (by first | omega | (simp; done) | (simp; omega) | (rw [List.length_map]; assumption) | assumption | rfl | (simp [*]; done) | (simp [*]; omega)) (one_B8 _)) (listed' := #[true, true, true, true, true, true, true, true, true, true, true, true, true, true]) rfl ?_
  clear hH; rintro _ w hH
  refine ⟨fun _ h => absurd h (by decide), ?_⟩
  refine a_end (by kernel_rfl) ?_ _
  refine hK4 _ _ ?_
  clear hK4
  replace hA := hA.sub (E' := [(2, _)]) ⟨rfl, trivial⟩
  refine wp_ret ?_
  refine post_ret hA (res_c rfl hA rfl (resW hH 0 rfl Tryd.underlying23 rfl ti23 (by first | assumption | (rw [List.length_map]; assumption) | rfl | exact sha_length _ | (simp; done) | (simp [*]; done) | omega))) ?_
  replace hH := hH.pick [] (Hs' := []) rfl
  exact ⟨_, rfl, by rw [rt_split hls], hH⟩

theorem refrt_any {lv : Nat} : ∀ (m : Nat), m ≤ 10 → ∀ {w0 : World} (v : Value) (ls : List Bs), Gl (lv + 2) w0 → Dg ls → RdD [] w0 v ls → ls.length = 2 ^ m → Calls Tryd.prog 79 #[v] w0 (Ret fun r w' => r = .agg ((rt ls m).map B8).toArray ∧ HS [] w0 w' [])
  | 0, _, _, v, ls, _, hd, hr, hl => refrt_zero v ls hd hr hl
  | m + 1, hm, _, v, ls, hg, hd, hr, hl => refrt_step hg m (refrt_any m (by omega)) v ls hd hr hl (by omega)
theorem refroot_any {w0 : World} {lv : Nat} (hg : Gl (lv + 2) w0) (v : Value) (ls : List Bs) (hd : Dg ls) (hr : RdD [] w0 v ls) (m : Nat) (hm : m ≤ 10) (hls : ls.length = 2 ^ m) :
    Calls Tryd.prog 44 #[v] w0 (Ret fun r w' => r = .tuple #[.agg ((rt ls m).map B8).toArray, I 0] ∧ HS [] w0 w' []) := by
  have hH := HS.start w0
  refine start (n := 11) (E := [(0, _)]) Tryd.func44 rfl rfl rfl (args_look rfl) ?_
  intro a hA
  have hrl := rt_length hd hls
  refine wp_seq_k fun K1 hK1 => ?_
  refine wp_region_lit ?_
  refine sl hA (lo_allocA hH ti23) rfl ?_
  clear hH; rintro _ w ⟨b_t2, rfl, hH⟩ a hA
  refine sq hA (q_assign rfl) rfl fun a hA => ?_
  refine wpList_nil ?_
  refine hK1 _ _ ?_
  clear hK1
  refine wp_seq_k fun K2 hK2 => ?_
  refine wp_seq_k fun K3 hK3 => ?_
  refine wp_region_lit ?_
  refine sq hA (q_move rfl) rfl fun a hA => ?_
  refine sq hA (q_len Tryd.underlying25 rfl (Rd.shp hr)) rfl fun a hA => ?_
  rw [hls] at hA
  refine sl hA (lo_call fn78 rfl (refright_yes m hm)) rfl ?_
  rintro _ w ⟨rfl, hC⟩ a hA
  replace hH := HS.call0 hH hC
  clear hC
  refine sq hA (q_not rfl) rfl fun a hA => ?_
  refine wpList_nil ?_
  refine hK3 _ _ ?_
  clear hK3
  replace hA := hA.sub (E' := [(7, _), (3, _), (2, _), (0, _)]) ⟨rfl, rfl, rfl, rfl, trivial⟩
  refine cond_f hA rfl ?_
  refine wp_skip ?_
  refine hK2 _ _ ?_
  clear hK2
  replace hA := hA.sub (E' := [(3, _), (2, _), (0, _)]) ⟨rfl, rfl, rfl, trivial⟩
  refine wp_seq_k fun K4 hK4 => ?_
  refine wp_region_lit ?_
  refine sq hA (q_move rfl) rfl fun a hA => ?_
  refine sl hA (lo_call fn79 rfl (refrt_any m hm _ ls (hg.mono0 hH) hd (hH.rd hr) hls)) rfl ?_
  rintro _ w ⟨rfl, hC⟩ a hA
  replace hH := HS.call0 hH hC
  clear hC
  refine s0 hA (lo_storeAm hH ti23 rfl rfl (by first | omega | (simp; done) | (simp; omega) | (rw [List.length_map]; assumption) | assumption | rfl | (simp [*]; done) | (simp [*]; omega)) (by first | omega | (simp; done) | (simp; omega) | (rw [List.length_map]; assumption) | assumption | rfl | (simp [*]; done) | (simp [*]; omega)) (one_B8 _)) ?_
  clear hH; rintro _ w hH
  refine sq hA (q_assign rfl) rfl fun a hA => ?_
  refine wpList_nil ?_
  refine hK4 _ _ ?_
  clear hK4
  replace hA := hA.sub (E' := [(3, _), (2, _)]) ⟨rfl, rfl, trivial⟩
  refine wp_ret ?_
  refine post_ret hA (res_c1 rfl hA rfl rfl (resW hH 0 rfl Tryd.underlying23 rfl ti23 (by first | assumption | (rw [List.length_map]; assumption) | rfl | exact sha_length _ | (simp; done) | (simp [*]; done) | omega))) ?_
  replace hH := hH.pick [] (Hs' := []) rfl
  exact ⟨_, rfl, rfl, hH⟩

theorem refroot_bad {w0 : World} (v : Value) (ls : List Bs) (hd : Dg ls) (hr : RdD [] w0 v ls) (hn : ¬ Pw ls.length) :
    Calls Tryd.prog 44 #[v] w0 (Ret fun r w' => r = .tuple #[.agg (((List.replicate 32 0#8)).map B8).toArray, I 1] ∧ HS [] w0 w' []) := by
  have hH := HS.start w0
  refine start (n := 11) (E := [(0, _)]) Tryd.func44 rfl rfl rfl (args_look rfl) ?_
  intro a hA
  refine wp_seq_k fun K1 hK1 => ?_
  refine wp_region_lit ?_
  refine sl hA (lo_allocA hH ti23) rfl ?_
  clear hH; rintro _ w ⟨b_t2, rfl, hH⟩ a hA
  refine sq hA (q_assign rfl) rfl fun a hA => ?_
  refine wpList_nil ?_
  refine hK1 _ _ ?_
  clear hK1
  refine wp_seq_k fun K2 hK2 => ?_
  refine wp_seq_k fun K3 hK3 => ?_
  refine wp_region_lit ?_
  refine sq hA (q_move rfl) rfl fun a hA => ?_
  refine sq hA (q_len Tryd.underlying25 rfl (Rd.shp hr)) rfl fun a hA => ?_
  refine sl hA (lo_call fn78 rfl (refright_no _ hn)) rfl ?_
  rintro _ w ⟨rfl, hC⟩ a hA
  replace hH := HS.call0 hH hC
  clear hC
  refine sq hA (q_not rfl) rfl fun a hA => ?_
  refine wpList_nil ?_
  refine hK3 _ _ ?_
  clear hK3
  replace hA := hA.sub (E' := [(7, _), (3, _), (2, _), (0, _)]) ⟨rfl, rfl, rfl, rfl, trivial⟩
  refine cond_t hA rfl ?_
  refine wp_seq_k fun K4 hK4 => ?_
  refine wp_region_lit ?_
  refine sq hA (q_build (v := (.agg ((List.replicate 32 0#8).map B8).toArray)) (vs := []) rfl (fun w => by kernel_rfl)) rfl fun a hA => ?_
  refine s0 hA (lo_storeAm hH ti23 rfl rfl (by first | assumption | (rw [List.length_map]; assumption) | rfl | exact sha_length _ | (simp; done) | (simp [*]; done) | omega) (by first | assumption | (rw [List.length_map]; assumption) | rfl | exact sha_length _ | (simp; done) | (simp [*]; done) | omega) (one_B8 _)) ?_
  clear hH; rintro _ w hH
  refine sq hA (q_assign rfl) rfl fun a hA => ?_
  refine wpList_nil ?_
  refine hK4 _ _ ?_
  clear hK4
  replace hA := hA.sub (E' := [(3, _), (2, _), (0, _)]) ⟨rfl, rfl, rfl, trivial⟩
  refine wp_ret ?_
  refine then_ret ?_
  refine post_ret hA (res_c1 rfl hA rfl rfl (resW hH 0 rfl Tryd.underlying23 rfl ti23 (by first | assumption | (rw [List.length_map]; assumption) | rfl | exact sha_length _ | (simp; done) | (simp [*]; done) | omega))) ?_
  replace hH := hH.pick [] (Hs' := []) rfl
  exact ⟨_, rfl, rfl, hH⟩

theorem refpth_zero {w0 : World} (v : Value) (ls : List Bs) (hd : Dg ls) (hr : RdD [] w0 v ls) (i : Nat) (hls : ls.length = 1) :
    Calls Tryd.prog 85 #[v, I i] w0 (Ret fun r w' => ∃ v' N, v' = r ∧ OwD 23 v' (pth ls i 0) N ∧ HS [] w0 w' [N]) := by
  have hH := HS.start w0
  refine start (n := 43) (E := [(0, _), (1, _)]) Tryd.func85 rfl rfl rfl (args_look rfl) ?_
  intro a hA
  refine wp_seq_k fun K1 hK1 => ?_
  refine wp_region_lit ?_
  refine sq hA (q_assign rfl) rfl fun a hA => ?_
  refine wpList_nil ?_
  refine hK1 _ _ ?_
  clear hK1
  refine wp_seq_k fun K2 hK2 => ?_
  refine wp_seq_k fun K3 hK3 => ?_
  refine wp_region_lit ?_
  refine sq hA (q_move rfl) rfl fun a hA => ?_
  refine sq hA (q_len Tryd.underlying25 rfl (Rd.shp hr)) rfl fun a hA => ?_
  refine sq hA (Runs.bt (q_eqlI (n := 1) rfl rfl) (by omega)) rfl fun a hA => ?_
  refine wpList_nil ?_
  refine hK3 _ _ ?_
  clear hK3
  replace hA := hA.sub (E' := [(10, _), (4, _), (0, _), (1, _)]) ⟨rfl, rfl, rfl, rfl, trivial⟩
  refine cond_t hA rfl ?_
  refine wp_seq_k fun K4 hK4 => ?_
  refine wp_region_lit ?_
  refine sq hA (q_assign rfl) rfl fun a hA => ?_
  refine wpList_nil ?_
  refine hK4 _ _ ?_
  clear hK4
  replace hA := hA.sub (E' := [(4, _), (0, _), (1, _)]) ⟨rfl, rfl, rfl, trivial⟩
  refine wp_ret ?_
  refine then_ret ?_
  refine post_ret hA (res_1 rfl hA rfl) ?_
  exact ⟨_, rfl, _, [], rfl, Own.nil _ _, hH.nilFront⟩

theorem refpth_step {w0 : World} {lv : Nat} (hg : Gl (lv + 2) w0) (m : Nat) (ih : ∀ {w0 : World} (v : Value) (ls : List Bs) (i : Nat), Gl (lv + 2) w0 → Dg ls → RdD [] w0 v ls → ls.length = 2 ^ m → i < 2 ^ m → Calls Tryd.prog 85 #[v, I i] w0 (Ret fun r w' => ∃ v' N, v' = r ∧ OwD 23 v' (pth ls i m) N ∧ HS [] w0 w' [N])) (v : Value) (ls : List Bs) (hd : Dg ls) (hr : RdD [] w0 v ls) (i : Nat) (hls : ls.length = 2 ^ (m + 1)) (hm : m ≤ 10) (hi : i < 2 ^ (m + 1)) :
    Calls Tryd.prog 85 #[v, I i] w0 (Ret fun r w' => ∃ v' N, v' = r ∧ OwD 23 v' (pth ls i (m + 1)) N ∧ HS [] w0 w' [N]) := by
  have hH := HS.start w0
  refine start (n := 43) (E := [(0, _), (1, _)]) Tryd.func85 rfl rfl rfl (args_look rfl) ?_
  intro a hA
  have hpm := pow_le hm
  have hp2 : 2 ^ (m + 1) = 2 * 2 ^ m := by rw [Nat.pow_succ]; omega
  have hpos := Nat.pow_pos (n := m) (show 0 < 2 by decide)
  have hkt : (ls.take (2 ^ m)).length = 2 ^ m := by rw [List.length_take]; omega
  have hkd : (ls.drop (2 ^ m)).length = 2 ^ m := by rw [List.length_drop]; omega
  have hra := rt_length (hd.take (2 ^ m)) hkt
  have hrb := rt_length (hd.drop (2 ^ m)) hkd
  have hdt := hd.take (2 ^ m)
  have hdd := hd.drop (2 ^ m)
  refine wp_seq_k fun K1 hK1 => ?_
  refine wp_region_lit ?_
  refine sq hA (q_assign rfl) rfl fun a hA => ?_
  refine wpList_nil ?_
  refine hK1 _ _ ?_
  clear hK1
  refine wp_seq_k fun K2 hK2 => ?_
  refine wp_seq_k fun K3 hK3 => ?_
  refine wp_region_lit ?_
  refine sq hA (q_move rfl) rfl fun a hA => ?_
  refine sq hA (q_len Tryd.underlying25 rfl (Rd.shp hr)) rfl fun a hA => ?_
  refine sq hA (Runs.bf (q_eqlI (n := 1) rfl rfl) (by omega)) rfl fun a hA => ?_
  refine wpList_nil ?_
  refine hK3 _ _ ?_
  clear hK3
  replace hA := hA.sub (E' := [(10, _), (4, _), (0, _), (1, _)]) ⟨rfl, rfl, rfl, rfl, trivial⟩
  refine cond_f hA rfl ?_
  refine wp_skip ?_
  refine hK2 _ _ ?_
  clear hK2
  replace hA := hA.sub (E' := [(4, _), (0, _), (1, _)]) ⟨rfl, rfl, rfl, trivial⟩
  refine wp_seq_k fun K4 hK4 => ?_
  refine wp_region_lit ?_
  refine sq hA (q_move rfl) rfl fun a hA => ?_
  refine sq hA (q_len Tryd.underlying25 rfl (Rd.shp hr)) rfl fun a hA => ?_
  refine sq hA (q_quoI (n := 2) rfl rfl (by omega)) rfl fun a hA => ?_
  rw [show ((ls.length : Int) / 2) = ((2 ^ m : Nat) : Int) by rw [hls, Nat.pow_succ]; omega] at hA
  refine sq hA (q_assign rfl) rfl fun a hA => ?_
  refine wpList_nil ?_
  refine hK4 _ _ ?_
  clear hK4
  replace hA := hA.sub (E' := [(5, _), (4, _), (0, _), (1, _)]) ⟨rfl, rfl, rfl, rfl, trivial⟩
  refine wp_seq_k fun K5 hK5 => ?_
  refine wp_seq_k fun K6 hK6 => ?_
  refine wp_region_lit ?_
  refine sq hA (q_move rfl) rfl fun a hA => ?_
  refine sq hA (q_move rfl) rfl fun a hA => ?_
  refine sq hA (q_lssI rfl rfl) rfl fun a hA => ?_
  refine wpList_nil ?_
  refine hK6 _ _ ?_
  clear hK6
  replace hA := hA.sub (E' := [(16, _), (5, _), (4, _), (0, _), (1, _)]) ⟨rfl, rfl, rfl, rfl, rfl, trivial⟩
  refine cond_d hA rfl (fun hc16 => ?_) (fun hc16 => ?_)
  · skip
    refine wp_seq_k fun K7 hK7 => ?_
    refine wp_region_lit ?_
    refine sq hA (q_move rfl) rfl fun a hA => ?_
    refine sq hA (q_move rfl) rfl fun a hA => ?_
    obtain ⟨v_t19, hv_t19, hO_t19⟩ := RdD.cut0 hr (by assumption) (2 ^ m) (by first | omega | (simp; omega) | (simp [*]; omega))
    refine sq hA (q_slice Tryd.underlying25 ti23 rfl (0) (2 ^ m) hv_t19 (Rd.shp hr) rfl rfl (rfl) (rfl) (by first | omega | (simp; omega) | (simp [*]; omega)) (by first | omega | (simp; omega) | (simp [*]; omega))) rfl fun a hA => ?_
    refine sq hA (q_move rfl) rfl fun a hA => ?_
    refine sl hA (lo_call fn85 rfl (ih _ (ls.take (2 ^ m)) (i) (hg.mono0 hH) hdt (hH.rd hO_t19) hkt (by omega))) rfl ?_
    rintro _ w ⟨v_t21, N_t21, rfl, hO_t21, hC⟩ a hA
    replace hH := HS.call0 hH hC
    clear hC
    refine sq hA (q_assign rfl) rfl fun a hA => ?_
    refine wpList_nil ?_
    refine hK7 _ _ ?_
    clear hK7
    replace hA := hA.sub (E' := [(6, _), (5, _), (4, _), (0, _), (1, _)]) ⟨rfl, rfl, rfl, rfl, rfl, trivial⟩
    refine wp_seq_k fun K8 hK8 => ?_
    refine wp_region_lit ?_
    refine sq hA (q_move rfl) rfl fun a hA => ?_
    refine sq hA (q_move rfl) rfl fun a hA => ?_
    refine sq hA (q_move rfl) rfl fun a hA => ?_
    obtain ⟨v_t25, hv_t25, hO_t25⟩ := RdD.cutE hr (by assumption) (2 ^ m) (by first | omega | (simp; omega) | (simp [*]; omega))
    refine sq hA (q_slice Tryd.underlying25 ti23 rfl (2 ^ m) (_) hv_t25 (Rd.shp hr) rfl rfl (rfl) (by first | rfl | (simp; done) | omega) (by first | omega | (simp; omega) | (simp [*]; omega)) (by first | omega | (simp; omega) | (simp [*]; omega))) rfl fun a hA => ?_
    refine sl hA (lo_call fn79 rfl (refrt_any m (by omega) _ (ls.drop (2 ^ m)) (hg.mono0 hH) hdd (hH.rd hO_t25) hkd)) rfl ?_
    rintro _ w ⟨rfl, hC⟩ a hA
    replace hH := HS.call0 hH hC
    clear hC
    refine sl hA (lo_buildD (ls := [_]) hH Tryd.underlying25 ti23 rfl rfl rfl (by decide) (by decide) (by first | assumption | exact Dg.one (by first | assumption | (rw [List.length_map]; assumption) | rfl | exact sha_length _ | (simp; done) | (simp [*]; done) | omega) | exact Dg.two (by first | assumption | (rw [List.length_map]; assumption) | rfl | exact sha_length _ | (simp; done) | (simp [*]; done) | omega) (by first | assumption | (rw [List.length_map]; assumption) | rfl | exact sha_length _ | (simp; done) | (simp [*]; done) | omega))) rfl ?_
    clear hH; rintro v_t27 w ⟨N_t27, hO_t27, hH⟩ a hA
    replace hH := hH.pick [1, 0] (Hs' := [_, _]) rfl
    refine sl hA (lo_appD hH Tryd.underlying25 Tryd.underlying25 (.inl rfl) ti23 rfl rfl rfl hO_t21 (Own.rd0 hO_t27 hH 1 rfl) (by first | omega | (simp; omega)) (by first | omega | (simp; omega))) rfl ?_
    clear hH; rintro v_t28 w ⟨N_t28, hO_t28, hH⟩ a hA
    refine sq hA (q_assign rfl) rfl fun a hA => ?_
    refine wpList_nil ?_
    refine hK8 _ _ ?_
    clear hK8
    replace hA := hA.sub (E' := [(4, _), (5, _), (0, _), (1, _)]) ⟨rfl, rfl, rfl, rfl, trivial⟩
    refine wp_ret ?_
    refine then_ret ?_
    refine post_ret hA (res_1 rfl hA rfl) ?_
    replace hH := hH.pick [0] (Hs' := [_]) rfl
    exact ⟨_, rfl, v_t28, N_t28, rfl, by rw [pth_l hls (by omega)]; exact hO_t28, hH⟩
  · skip
    refine wp_skip ?_
    refine hK5 _ _ ?_
    clear hK5
    replace hA := hA.sub (E' := [(5, _), (4, _), (0, _), (1, _)]) ⟨rfl, rfl, rfl, rfl, trivial⟩
    refine wp_seq_k fun K9 hK9 => ?_
    refine wp_region_lit ?_
    refine sq hA (q_move rfl) rfl fun a hA => ?_
    refine sq hA (q_move rfl) rfl fun a hA => ?_
    obtain ⟨v_t31, hv_t31, hO_t31⟩ := RdD.cutE hr (by assumption) (2 ^ m) (by first | omega | (simp; omega) | (simp [*]; omega))
    refine sq hA (q_slice Tryd.underlying25 ti23 rfl (2 ^ m) (_) hv_t31 (Rd.shp hr) rfl rfl (rfl) (by first | rfl | (simp; done) | omega) (by first | omega | (simp; omega) | (simp [*]; omega)) (by first | omega | (simp; omega) | (simp [*]; omega))) rfl fun a hA => ?_
    refine sq hA (q_move rfl) rfl fun a hA => ?_
    refine sq hA (q_move rfl) rfl fun a hA => ?_
    refine sq hA (q_subI rfl rfl (by omega)) rfl fun a hA => ?_
    rw [show ((i : Int) - ((2 ^ m : Nat) : Int)) = ((i - 2 ^ m : Nat) : Int) by omega] at hA
    refine sl hA (lo_call fn85 rfl (ih _ (ls.drop (2 ^ m)) (i - 2 ^ m) (hg.mono0 hH) hdd (hH.rd hO_t31) hkd (by omega))) rfl ?_
    rintro _ w ⟨v_t35, N_t35, rfl, hO_t35, hC⟩ a hA
    replace hH := HS.call0 hH hC
    clear hC
    refine sq hA (q_assign rfl) rfl fun a hA => ?_
    refine wpList_nil ?_
    refine hK9 _ _ ?_
    clear hK9
    replace hA := hA.sub (E' := [(7, _), (5, _), (4, _), (0, _)]) ⟨rfl, rfl, rfl, rfl, trivial⟩
    refine wp_seq_k fun K10 hK10 => ?_
    refine wp_region_lit ?_
    refine sq hA (q_move rfl) rfl fun a hA => ?_
    refine sq hA (q_move rfl) rfl fun a hA => ?_
    refine sq hA (q_move rfl) rfl fun a hA => ?_
    obtain ⟨v_t39, hv_t39, hO_t39⟩ := RdD.cut0 hr (by assumption) (2 ^ m) (by first | omega | (simp; omega) | (simp [*]; omega))
    refine sq hA (q_slice Tryd.underlying25 ti23 rfl (0) (2 ^ m) hv_t39 (Rd.shp hr) rfl rfl (rfl) (rfl) (by first | omega | (simp; omega) | (simp [*]; omega)) (by first | omega | (simp; omega) | (simp [*]; omega))) rfl fun a hA => ?_
    refine sl hA (lo_call fn79 rfl (refrt_any m (by omega) _ (ls.take (2 ^ m)) (hg.mono0 hH) hdt (hH.rd hO_t39) hkt)) rfl ?_
    rintro _ w ⟨rfl, hC⟩ a hA
    replace hH := HS.call0 hH hC
    clear hC
    refine sl hA (lo_buildD (ls := [_]) hH Tryd.underlying25 ti23 rfl rfl rfl (by decide) (by decide) (by first | assumption | exact Dg.one (by first | assumption | (rw [List.length_map]; assumption) | rfl | exact sha_length _ | (simp; done) | (simp [*]; done) | omega) | exact Dg.two (by first | assumption | (rw [List.length_map]; assumption) | rfl | exact sha_length _ | (simp; done) | (simp [*]; done) | omega) (by first | assumption | (rw [List.length_map]; assumption) | rfl | exact sha_length _ | (simp; done) | (simp [*]; done) | omega))) rfl ?_
    clear hH; rintro v_t41 w ⟨N_t41, hO_t41, hH⟩ a hA
    replace hH := hH.pick [1, 0] (Hs' := [_, _]) rfl
    refine sl hA (lo_appD hH Tryd.underlying25 Tryd.underlying25 (.inl rfl) ti23 rfl rfl rfl hO_t35 (Own.rd0 hO_t41 hH 1 rfl) (by first | omega | (simp; omega)) (by first | omega | (simp; omega))) rfl ?_
    clear hH; rintro v_t42 w ⟨N_t42, hO_t42, hH⟩ a hA
    refine sq hA (q_assign rfl) rfl fun a hA => ?_
    refine wpList_nil ?_
    refine hK10 _ _ ?_
    clear hK10
    replace hA := hA.sub (E' := [(4, _)]) ⟨rfl, trivial⟩
    refine wp_ret ?_
    refine post_ret hA (res_1 rfl hA rfl) ?_
    replace hH := hH.pick [0] (Hs' := [_]) rfl
    exact ⟨_, rfl, v_t42, N_t42, rfl, by rw [pth_r hls (by omega) hi]; exact hO_t42, hH⟩

theorem refpth_any {lv : Nat} : ∀ (m : Nat), m ≤ 10 → ∀ {w0 : World} (v : Value) (ls : List Bs) (i : Nat), Gl (lv + 2) w0 → Dg ls → RdD [] w0 v ls → ls.length = 2 ^ m → i < 2 ^ m → Calls Tryd.prog 85 #[v, I i] w0 (Ret fun r w' => ∃ v' N, v' = r ∧ OwD 23 v' (pth ls i m) N ∧ HS [] w0 w' [N])
  | 0, _, _, v, ls, i, _, hd, hr, hl, _ => refpth_zero v ls hd hr i hl
  | m + 1, hm, _, v, ls, i, hg, hd, hr, hl, hi => refpth_step hg m (refpth_any m (by omega)) v ls hd hr i hl (by omega) hi
theorem refpath_any {w0 : World} {lv : Nat} (hg : Gl (lv + 2) w0) (v : Value) (ls : List Bs) (hd : Dg ls) (hr : RdD [] w0 v ls) (m i : Nat) (hm : m ≤ 10) (hls : ls.length = 2 ^ m) (hi : i < 2 ^ m) :
    Calls Tryd.prog 50 #[v, I i] w0 (Ret fun r w' => ∃ v' N, r = .tuple #[v', I 0] ∧ OwD 23 v' (pth ls i m) N ∧ HS [] w0 w' [N]) := by
  have hH := HS.start w0
  refine start (n := 23) (E := [(0, _), (1, _)]) Tryd.func50 rfl rfl rfl (args_look rfl) ?_
  intro a hA
  refine wp_seq_k fun K1 hK1 => ?_
  refine wp_region_lit ?_
  refine sq hA (q_assign rfl) rfl fun a hA => ?_
  refine sq hA (q_assign rfl) rfl fun a hA => ?_
  refine wpList_nil ?_
  refine hK1 _ _ ?_
  clear hK1
  refine wp_seq_k fun K2 hK2 => ?_
  refine wp_seq_k fun K3 hK3 => ?_
  refine wp_region_lit ?_
  refine sq hA (q_move rfl) rfl fun a hA => ?_
  refine sq hA (q_len Tryd.underlying25 rfl (Rd.shp hr)) rfl fun a hA => ?_
  rw [hls] at hA
  refine sl hA (lo_call fn78 rfl (refright_yes m hm)) rfl ?_
  rintro _ w ⟨rfl, hC⟩ a hA
  replace hH := HS.call0 hH hC
  clear hC
  refine sq hA (q_not rfl) rfl fun a hA => ?_
  refine sq hA (q_move rfl) rfl fun a hA => ?_
  refine gq hA rfl rfl (q_move rfl) rfl fun a hA => ?_
  refine gq hA rfl rfl (Runs.bf (q_lssI (n := 0) rfl rfl) (by omega)) rfl fun a hA => ?_
  refine sq hA (q_pick_f rfl rfl) rfl fun a hA => ?_
  refine sq hA (q_move rfl) rfl fun a hA => ?_
  refine gq hA rfl rfl (q_move rfl) rfl fun a hA => ?_
  refine gq hA rfl rfl (q_move rfl) rfl fun a hA => ?_
  refine gq hA rfl rfl (q_len Tryd.underlying25 rfl (Rd.shp hr)) rfl fun a hA => ?_
  refine gq hA rfl rfl (Runs.bf (q_geqI rfl rfl) (by omega)) rfl fun a hA => ?_
  refine sq hA (q_pick_f rfl rfl) rfl fun a hA => ?_
  refine wpList_nil ?_
  refine hK3 _ _ ?_
  clear hK3
  replace hA := hA.sub (E' := [(19, _), (5, _), (4, _), (0, _), (1, _)]) ⟨rfl, rfl, rfl, rfl, rfl, trivial⟩
  refine cond_f hA rfl ?_
  refine wp_skip ?_
  refine hK2 _ _ ?_
  clear hK2
  replace hA := hA.sub (E' := [(5, _), (4, _), (0, _), (1, _)]) ⟨rfl, rfl, rfl, rfl, trivial⟩
  refine wp_seq_k fun K4 hK4 => ?_
  refine wp_region_lit ?_
  refine sq hA (q_move rfl) rfl fun a hA => ?_
  refine sq hA (q_move rfl) rfl fun a hA => ?_
  refine sl hA (lo_call fn85 rfl (refpth_any m hm _ ls i (hg.mono0 hH) hd (hH.rd hr) hls hi)) rfl ?_
  rintro _ w ⟨v_t22, N_t22, rfl, hO_t22, hC⟩ a hA
  replace hH := HS.call0 hH hC
  clear hC
  refine sq hA (q_assign rfl) rfl fun a hA => ?_
  refine sq hA (q_assign rfl) rfl fun a hA => ?_
  refine wpList_nil ?_
  refine hK4 _ _ ?_
  clear hK4
  replace hA := hA.sub (E' := [(5, _), (4, _)]) ⟨rfl, rfl, trivial⟩
  refine wp_ret ?_
  refine post_ret hA (res_2 rfl hA rfl rfl) ?_
  exact ⟨_, rfl, v_t22, N_t22, rfl, hO_t22, hH⟩

theorem refpath_len {w0 : World} (v : Value) (ls : List Bs) (hd : Dg ls) (hr : RdD [] w0 v ls) (i : Int) (hn : ¬ Pw ls.length) :
    Calls Tryd.prog 50 #[v, I i] w0 (Ret fun r w' => r = .tuple #[.slice none 0 0, I 1] ∧ HS [] w0 w' []) := by
  have hH := HS.start w0
  refine start (n := 23) (E := [(0, _), (1, _)]) Tryd.func50 rfl rfl rfl (args_look rfl) ?_
  intro a hA
  refine wp_seq_k fun K1 hK1 => ?_
  refine wp_region_lit ?_
  refine sq hA (q_assign rfl) rfl fun a hA => ?_
  refine sq hA (q_assign rfl) rfl fun a hA => ?_
  refine wpList_nil ?_
  refine hK1 _ _ ?_
  clear hK1
  refine wp_seq_k fun K2 hK2 => ?_
  refine wp_seq_k fun K3 hK3 => ?_
  refine wp_region_lit ?_
  refine sq hA (q_move rfl) rfl fun a hA => ?_
  refine sq hA (q_len Tryd.underlying25 rfl (Rd.shp hr)) rfl fun a hA => ?_
  refine sl hA (lo_call fn78 rfl (refright_no _ hn)) rfl ?_
  rintro _ w ⟨rfl, hC⟩ a hA
  replace hH := HS.call0 hH hC
  clear hC
  refine sq hA (q_not rfl) rfl fun a hA => ?_
  refine sq hA (q_move rfl) rfl fun a hA => ?_
  refine gs hA rfl rfl rfl rfl fun a hA => ?_
  refine gs hA rfl rfl rfl rfl fun a hA => ?_
  refine sq hA (q_pick_t rfl rfl) rfl fun a hA => ?_
  refine sq hA (q_move rfl) rfl fun a hA => ?_
  refine gs hA rfl rfl rfl rfl fun a hA => ?_
  refine gs hA rfl rfl rfl rfl fun a hA => ?_
  refine gs hA rfl rfl rfl rfl fun a hA => ?_
  refine gs hA rfl rfl rfl rfl fun a hA => ?_
  refine sq hA (q_pick_t rfl rfl) rfl fun a hA => ?_
  refine wpList_nil ?_
  refine hK3 _ _ ?_
  clear hK3
  replace hA := hA.sub (E' := [(19, _), (5, _), (4, _), (0, _), (1, _)]) ⟨rfl, rfl, rfl, rfl, rfl, trivial⟩
  refine cond_t hA rfl ?_
  refine wp_seq_k fun K4 hK4 => ?_
  refine wp_region_lit ?_
  refine sq hA (q_assign rfl) rfl fun a hA => ?_
  refine sq hA (q_assign rfl) rfl fun a hA => ?_
  refine wpList_nil ?_
  refine hK4 _ _ ?_
  clear hK4
  replace hA := hA.sub (E' := [(5, _), (4, _), (0, _), (1, _)]) ⟨rfl, rfl, rfl, rfl, trivial⟩
  refine wp_ret ?_
  refine then_ret ?_
  refine post_ret hA (res_2 rfl hA rfl rfl) ?_
  exact ⟨_, rfl, rfl, hH⟩

theorem refpath_idx {w0 : World} (v : Value) (ls : List Bs) (hd : Dg ls) (hr : RdD [] w0 v ls) (i : Int) (m : Nat) (hm : m ≤ 10) (hls : ls.length = 2 ^ m) (hi : i < 0 ∨ (ls.length : Int) ≤ i) :
    Calls Tryd.prog 50 #[v, I i] w0 (Ret fun r w' => r = .tuple #[.slice none 0 0, I 1] ∧ HS [] w0 w' []) := by
  have hH := HS.start w0
  refine start (n := 23) (E := [(0, _), (1, _)]) Tryd.func50 rfl rfl rfl (args_look rfl) ?_
  intro a hA
  refine wp_seq_k fun K1 hK1 => ?_
  refine wp_region_lit ?_
  refine sq hA (q_assign rfl) rfl fun a hA => ?_
  refine sq hA (q_assign rfl) rfl fun a hA => ?_
  refine wpList_nil ?_
  refine hK1 _ _ ?_
  clear hK1
  refine wp_seq_k fun K2 hK2 => ?_
  refine wp_seq_k fun K3 hK3 => ?_
  refine wp_region_lit ?_
  refine sq hA (q_move rfl) rfl fun a hA => ?_
  refine sq hA (q_len Tryd.underlying25 rfl (Rd.shp hr)) rfl fun a hA => ?_
  rw [hls] at hA
  refine sl hA (lo_call fn78 rfl (refright_yes m hm)) rfl ?_
  rintro _ w ⟨rfl, hC⟩ a hA
  replace hH := HS.call0 hH hC
  clear hC
  refine sq hA (q_not rfl) rfl fun a hA => ?_
  refine sq hA (q_move rfl) rfl fun a hA => ?_
  refine gq hA rfl rfl (q_move rfl) rfl fun a hA => ?_
  rcases Classical.em (i < 0) with hs12 | hs12
  · skip
    refine gq hA rfl rfl (Runs.bt (q_lssI (n := 0) rfl rfl) (by omega)) rfl fun a hA => ?_
    refine sq hA (q_pick_f rfl rfl) rfl fun a hA => ?_
    refine sq hA (q_move rfl) rfl fun a hA => ?_
    refine gs hA rfl rfl rfl rfl fun a hA => ?_
    refine gs hA rfl rfl rfl rfl fun a hA => ?_
    refine gs hA rfl rfl rfl rfl fun a hA => ?_
    refine gs hA rfl rfl rfl rfl fun a hA => ?_
    refine sq hA (q_pick_t rfl rfl) rfl fun a hA => ?_
    refine wpList_nil ?_
    refine hK3 _ _ ?_
    clear hK3
    replace hA := hA.sub (E' := [(19, _), (5, _), (4, _), (0, _), (1, _)]) ⟨rfl, rfl, rfl, rfl, rfl, trivial⟩
    refine cond_t hA rfl ?_
    refine wp_seq_k fun K4 hK4 => ?_
    refine wp_region_lit ?_
    refine sq hA (q_assign rfl) rfl fun a hA => ?_
    refine sq hA (q_assign rfl) rfl fun a hA => ?_
    refine wpList_nil ?_
    refine hK4 _ _ ?_
    clear hK4
    replace hA := hA.sub (E' := [(5, _), (4, _), (0, _), (1, _)]) ⟨rfl, rfl, rfl, rfl, trivial⟩
    refine wp_ret ?_
    refine then_ret ?_
    refine post_ret hA (res_2 rfl hA rfl rfl) ?_
    exact ⟨_, rfl, rfl, hH⟩
  · skip
    refine gq hA rfl rfl (Runs.bf (q_lssI (n := 0) rfl rfl) (by omega)) rfl fun a hA => ?_
    refine sq hA (q_pick_f rfl rfl) rfl fun a hA => ?_
    refine sq hA (q_move rfl) rfl fun a hA => ?_
    refine gq hA rfl rfl (q_move rfl) rfl fun a hA => ?_
    refine gq hA rfl rfl (q_move rfl) rfl fun a hA => ?_
    refine gq hA rfl rfl (q_len Tryd.underlying25 rfl (Rd.shp hr)) rfl fun a hA => ?_
    refine gq hA rfl rfl (Runs.bt (q_geqI rfl rfl) (by have h2 : ((ls.length : Nat) : Int) = ((2 ^ m : Nat) : Int) := (by rw [hls]); omega)) rfl fun a hA => ?_
    refine sq hA (q_pick_f rfl rfl) rfl fun a hA => ?_
    refine wpList_nil ?_
    refine hK3 _ _ ?_
    clear hK3
    replace hA := hA.sub (E' := [(19, _), (5, _), (4, _), (0, _), (1, _)]) ⟨rfl, rfl, rfl, rfl, rfl, trivial⟩
    refine cond_t hA rfl ?_
    refine wp_seq_k fun K5 hK5 => ?_
    refine wp_region_lit ?_
    refine sq hA (q_assign rfl) rfl fun a hA => ?_
    refine sq hA (q_assign rfl) rfl fun a hA => ?_
    refine wpList_nil ?_
    refine hK5 _ _ ?_
    clear hK5
    replace hA := hA.sub (E' := [(5, _), (4, _), (0, _), (1, _)]) ⟨rfl, rfl, rfl, rfl, trivial⟩
    refine wp_ret ?_
    refine then_ret ?_
    refine post_ret hA (res_2 rfl hA rfl rfl) ?_
    exact ⟨_, rfl, rfl, hH⟩

theorem path_len {w0 : World} (v : Value) (ls : List Bs) (hd : Dg ls) (hr : RdD [] w0 v ls) (i : Int) (hn : ¬ Pw ls.length) :
    Calls Tryd.prog 47 #[v, I i] w0 (Ret fun r w' => r = .tuple #[.slice none 0 0, I 1] ∧ HS [] w0 w' []) := by
  have hH := HS.start w0
  refine start (n := 39) (E := [(0, _), (1, _)]) Tryd.func47 rfl rfl rfl (args_look rfl) ?_
  intro a hA
  refine wp_seq_k fun K1 hK1 => ?_
  refine wp_region_lit ?_
  refine sq hA (q_assign rfl) rfl fun a hA => ?_
  refine sq hA (q_assign rfl) rfl fun a hA => ?_
  refine wpList_nil ?_
  refine hK1 _ _ ?_
  clear hK1
  refine wp_seq_k fun K2 hK2 => ?_
  refine wp_seq_k fun K3 hK3 => ?_
  refine wp_region_lit ?_
  refine sq hA (q_move rfl) rfl fun a hA => ?_
  refine sq hA (q_len Tryd.underlying25 rfl (Rd.shp hr)) rfl fun a hA => ?_
  refine sl hA (lo_call fn76 rfl (right_no _ hn)) rfl ?_
  rintro _ w ⟨rfl, hC⟩ a hA
  replace hH := HS.call0 hH hC
  clear hC
  refine sq hA (q_not rfl) rfl fun a hA => ?_
  refine sq hA (q_move rfl) rfl fun a hA => ?_
  refine gs hA rfl rfl rfl rfl fun a hA => ?_
  refine gs hA rfl rfl rfl rfl fun a hA => ?_
  refine sq hA (q_pick_t rfl rfl) rfl fun a hA => ?_
  refine sq hA (q_move rfl) rfl fun a hA => ?_
  refine gs hA rfl rfl rfl rfl fun a hA => ?_
  refine gs hA rfl rfl rfl rfl fun a hA => ?_
  refine gs hA rfl rfl rfl rfl fun a hA => ?_
  refine gs hA rfl rfl rfl rfl fun a hA => ?_
  refine sq hA (q_pick_t rfl rfl) rfl fun a hA => ?_
  refine wpList_nil ?_
  refine hK3 _ _ ?_
  clear hK3
  replace hA := hA.sub (E' := [(21, _), (5, _), (4, _), (0, _), (1, _)]) ⟨rfl, rfl, rfl, rfl, rfl, trivial⟩
  refine cond_t hA rfl ?_
  refine wp_seq_k fun K4 hK4 => ?_
  refine wp_region_lit ?_
  refine sq hA (q_assign rfl) rfl fun a hA => ?_
  refine sq hA (q_assign rfl) rfl fun a hA => ?_
  refine wpList_nil ?_
  refine hK4 _ _ ?_
  clear hK4
  replace hA := hA.sub (E' := [(5, _), (4, _), (0, _), (1, _)]) ⟨rfl, rfl, rfl, rfl, trivial⟩
  refine wp_ret ?_
  refine then_ret ?_
  refine post_ret hA (res_2 rfl hA rfl rfl) ?_
  exact ⟨_, rfl, rfl, hH⟩

theorem path_idx {w0 : World} (v : Value) (ls : List Bs) (hd : Dg ls) (hr : RdD [] w0 v ls) (i : Int) (m : Nat) (hm : m ≤ 10) (hls : ls.length = 2 ^ m) (hi : i < 0 ∨ (ls.length : Int) ≤ i) :
    Calls Tryd.prog 47 #[v, I i] w0 (Ret fun r w' => r = .tuple #[.slice none 0 0, I 1] ∧ HS [] w0 w' []) := by
  have hH := HS.start w0
  refine start (n := 39) (E := [(0, _), (1, _)]) Tryd.func47 rfl rfl rfl (args_look rfl) ?_
  intro a hA
  refine wp_seq_k fun K1 hK1 => ?_
  refine wp_region_lit ?_
  refine sq hA (q_assign rfl) rfl fun a hA => ?_
  refine sq hA (q_assign rfl) rfl fun a hA => ?_
  refine wpList_nil ?_
  refine hK1 _ _ ?_
  clear hK1
  refine wp_seq_k fun K2 hK2 => ?_
  refine wp_seq_k fun K3 hK3 => ?_
  refine wp_region_lit ?_
  refine sq hA (q_move rfl) rfl fun a hA => ?_
  refine sq hA (q_len Tryd.underlying25 rfl (Rd.shp hr)) rfl fun a hA => ?_
  rw [hls] at hA
  refine sl hA (lo_call fn76 rfl (right_any m hm)) rfl ?_
  rintro _ w ⟨rfl, hC⟩ a hA
  replace hH := HS.call0 hH hC
  clear hC
  refine sq hA (q_not rfl) rfl fun a hA => ?_
  refine sq hA (q_move rfl) rfl fun a hA => ?_
  refine gq hA rfl rfl (q_move rfl) rfl fun a hA => ?_
  rcases Classical.em (i < 0) with hs14 | hs14
  · skip
    refine gq hA rfl rfl (Runs.bt (q_lssI (n := 0) rfl rfl) (by omega)) rfl fun a hA => ?_
    refine sq hA (q_pick_f rfl rfl) rfl fun a hA => ?_
    refine sq hA (q_move rfl) rfl fun a hA => ?_
    refine gs hA rfl rfl rfl rfl fun a hA => ?_
    refine gs hA rfl rfl rfl rfl fun a hA => ?_
    refine gs hA rfl rfl rfl rfl fun a hA => ?_
    refine gs hA rfl rfl rfl rfl fun a hA => ?_
    refine sq hA (q_pick_t rfl rfl) rfl fun a hA => ?_
    refine wpList_nil ?_
    refine hK3 _ _ ?_
    clear hK3
    replace hA := hA.sub (E' := [(21, _), (5, _), (4, _), (0, _), (1, _)]) ⟨rfl, rfl, rfl, rfl, rfl, trivial⟩
    refine cond_t hA rfl ?_
    refine wp_seq_k fun K4 hK4 => ?_
    refine wp_region_lit ?_
    refine sq hA (q_assign rfl) rfl fun a hA => ?_
    refine sq hA (q_assign rfl) rfl fun a hA => ?_
    refine wpList_nil ?_
    refine hK4 _ _ ?_
    clear hK4
    replace hA := hA.sub (E' := [(5, _), (4, _), (0, _), (1, _)]) ⟨rfl, rfl, rfl, rfl, trivial⟩
    refine wp_ret ?_
    refine then_ret ?_
    refine post_ret hA (res_2 rfl hA rfl rfl) ?_
    exact ⟨_, rfl, rfl, hH⟩
  · skip
    refine gq hA rfl rfl (Runs.bf (q_lssI (n := 0) rfl rfl) (by omega)) rfl fun a hA => ?_
    refine sq hA (q_pick_f rfl rfl) rfl fun a hA => ?_
    refine sq hA (q_move rfl) rfl fun a hA => ?_
    refine gq hA rfl rfl (q_move rfl) rfl fun a hA => ?_
    refine gq hA rfl rfl (q_move rfl) rfl fun a hA => ?_
    refine gq hA rfl rfl (q_len Tryd.underlying25 rfl (Rd.shp hr)) rfl fun a hA => ?_
    refine gq hA rfl rfl (Runs.bt (q_geqI rfl rfl) (by have h2 : ((ls.length : Nat) : Int) = ((2 ^ m : Nat) : Int) := (by rw [hls]); omega)) rfl fun a hA => ?_
    refine sq hA (q_pick_f rfl rfl) rfl fun a hA => ?_
    refine wpList_nil ?_
    refine hK3 _ _ ?_
    clear hK3
    replace hA := hA.sub (E' := [(21, _), (5, _), (4, _), (0, _), (1, _)]) ⟨rfl, rfl, rfl, rfl, rfl, trivial⟩
    refine cond_t hA rfl ?_
    refine wp_seq_k fun K5 hK5 => ?_
    refine wp_region_lit ?_
    refine sq hA (q_assign rfl) rfl fun a hA => ?_
    refine sq hA (q_assign rfl) rfl fun a hA => ?_
    refine wpList_nil ?_
    refine hK5 _ _ ?_
    clear hK5
    replace hA := hA.sub (E' := [(5, _), (4, _), (0, _), (1, _)]) ⟨rfl, rfl, rfl, rfl, trivial⟩
    refine wp_ret ?_
    refine then_ret ?_
    refine post_ret hA (res_2 rfl hA rfl rfl) ?_
    exact ⟨_, rfl, rfl, hH⟩

theorem path_any {w0 : World} {lv : Nat} (hg : Gl lv w0) (v : Value) (ls : List Bs) (hd : Dg ls) (hr : RdD [] w0 v ls) (m i : Nat) (hm : m ≤ 10) (hls : ls.length = 2 ^ m) (hi : i < 2 ^ m) :
    Calls Tryd.prog 47 #[v, I i] w0 (Ret fun r w' => ∃ v' N, r = .tuple #[v', I 0] ∧ OwD 23 v' (pth ls i m) N ∧ HS [] w0 w' [N]) := by
  have hH := HS.start w0
  refine start (n := 39) (E := [(0, _), (1, _)]) Tryd.func47 rfl rfl rfl (args_look rfl) ?_
  intro a hA
  have e0 : (i : Int) = ((i / 2 ^ 0 : Nat) : Int) := by simp
  have hpm := pow_le hm
  refine wp_seq_k fun K1 hK1 => ?_
  refine wp_region_lit ?_
  refine sq hA (q_assign rfl) rfl fun a hA => ?_
  refine sq hA (q_assign rfl) rfl fun a hA => ?_
  refine wpList_nil ?_
  refine hK1 _ _ ?_
  clear hK1
  refine wp_seq_k fun K2 hK2 => ?_
  refine wp_seq_k fun K3 hK3 => ?_
  refine wp_region_lit ?_
  refine sq hA (q_move rfl) rfl fun a hA => ?_
  refine sq hA (q_len Tryd.underlying25 rfl (Rd.shp hr)) rfl fun a hA => ?_
  rw [hls] at hA
  refine sl hA (lo_call fn76 rfl (right_any m hm)) rfl ?_
  rintro _ w ⟨rfl, hC⟩ a hA
  replace hH := HS.call0 hH hC
  clear hC
  refine sq hA (q_not rfl) rfl fun a hA => ?_
  refine sq hA (q_move rfl) rfl fun a hA => ?_
  refine gq hA rfl rfl (q_move rfl) rfl fun a hA => ?_
  refine gq hA rfl rfl (Runs.bf (q_lssI (n := 0) rfl rfl) (by omega)) rfl fun a hA => ?_
  refine sq hA (q_pick_f rfl rfl) rfl fun a hA => ?_
  refine sq hA (q_move rfl) rfl fun a hA => ?_
  refine gq hA rfl rfl (q_move rfl) rfl fun a hA => ?_
  refine gq hA rfl rfl (q_move rfl) rfl fun a hA => ?_
  refine gq hA rfl rfl (q_len Tryd.underlying25 rfl (Rd.shp hr)) rfl fun a hA => ?_
  refine gq hA rfl rfl (Runs.bf (q_geqI rfl rfl) (by omega)) rfl fun a hA => ?_
  refine sq hA (q_pick_f rfl rfl) rfl fun a hA => ?_
  refine wpList_nil ?_
  refine hK3 _ _ ?_
  clear hK3
  replace hA := hA.sub (E' := [(21, _), (5, _), (4, _), (0, _), (1, _)]) ⟨rfl, rfl, rfl, rfl, rfl, trivial⟩
  refine cond_f hA rfl ?_
  refine wp_skip ?_
  refine hK2 _ _ ?_
  clear hK2
  replace hA := hA.sub (E' := [(5, _), (4, _), (0, _), (1, _)]) ⟨rfl, rfl, rfl, rfl, trivial⟩
  refine wp_seq_k fun K4 hK4 => ?_
  refine wp_region_lit ?_
  refine sq hA (q_assign rfl) rfl fun a hA => ?_
  refine wpList_nil ?_
  refine hK4 _ _ ?_
  clear hK4
  refine wp_seq_k fun K5 hK5 => ?_
  refine wp_seq_k fun K6 hK6 => ?_
  refine wp_region_lit ?_
  refine sq hA (q_move rfl) rfl fun a hA => ?_
  refine sq hA (q_assign rfl) rfl fun a hA => ?_
  refine wpList_nil ?_
  refine hK6 _ _ ?_
  clear hK6
  replace hA := hA.sub (E' := [(7, _), (6, _), (5, _), (4, _), (1, _)]) ⟨rfl, rfl, rfl, rfl, rfl, trivial⟩
  refine wp_block ?_
  rw [e0] at hA
  replace hH := hH.nilFront
  replace hH := hH.nilFront
  replace hH := hH.pick [1, 0] (Hs' := [_, _]) rfl
  refine wp_loop_ghost (fun gm a w => ∃ k : Nat, ∃ v_o : Value, ∃ v_l : Value, ∃ N_o : Hl, ∃ N_l : Hl, At 39 [(7, v_l), (6, v_o), (5, I 0), (4, (.slice none 0 0)), (1, I ((i / 2 ^ k : Nat) : Int))] a ∧ HS [] w0 w ([N_o, N_l]) ∧ (k ≤ m) ∧ (OwD 23 v_o (pth ls i k) N_o) ∧ (RdOr w0 23 32 v_l (lvls ls k).length (dc (lvls ls k)) N_l) ∧ gm = m - k) (m - (0)) ⟨0, (.slice none 0 0), v, [], [], hA.sub ⟨rfl, rfl, rfl, rfl, rfl, trivial⟩, hH, by omega, by exact Own.nil _ _, by exact .inl ⟨rfl, hr⟩, rfl⟩ ?_
  clear hA hH
  rintro gm a w ⟨k, v_o, v_l, N_o, N_l, hA, hH, hk, hO_o, hR_l, rfl⟩
  have hlk := lvls_length hls hk
  have hlkd := lvls_dg hd k
  have hpk := pow_le (m := m - k) (by omega)
  obtain ⟨x, hx⟩ : ∃ x, x = i / 2 ^ k := ⟨_, rfl⟩
  rw [← hx] at hA
  have hxi : x ≤ i := by rw [hx]; exact Nat.div_le_self _ _
  refine wp_seq_k fun K7 hK7 => ?_
  refine wp_seq_k fun K8 hK8 => ?_
  refine wp_region_lit ?_
  refine sq hA (q_move rfl) rfl fun a hA => ?_
  refine sq hA (q_len Tryd.underlying25 rfl (RdOr.shp hR_l)) rfl fun a hA => ?_
  refine sq hA (q_gtrI (n := 1) rfl rfl) rfl fun a hA => ?_
  refine wpList_nil ?_
  refine hK8 _ _ ?_
  clear hK8
  refine cond_d hA rfl (fun hc25 => ?_) (fun hc25 => ?_)
  · skip
    have hkm : k < m := by rcases Nat.lt_or_ge k m with h | h; exact h; exfalso; rw [show m - k = 0 by omega] at hlk; omega
    have hxl := idx_lt hi hkm
    rw [← hx] at hxl
    have hxd := hlkd.getD (i := x ^^^ 1) (by omega)
    refine wp_skip ?_
    refine hK7 _ _ ?_
    clear hK7
    refine wp_seq_k fun K9 hK9 => ?_
    refine wp_block ?_
    refine wp_seq_k fun K10 hK10 => ?_
    refine wp_region_lit ?_
    refine sq hA (q_move rfl) rfl fun a hA => ?_
    refine sq hA (q_move rfl) rfl fun a hA => ?_
    refine sq hA (q_move rfl) rfl fun a hA => ?_
    refine sq hA (q_xorI (b := 1) rfl rfl (by omega) (by omega)) rfl fun a hA => ?_
    refine sq hA (q_idxk (x ^^^ 1) Tryd.underlying25 ti23 rfl rfl (by first | omega | rfl) (RdOr.shp hR_l) (by first | omega | (simp; done) | (simp; omega) | (rw [List.length_map]; assumption) | assumption | rfl | (simp [*]; done) | (simp [*]; omega))) rfl fun a hA => ?_
    refine sq hA (q_loadRA (i := x ^^^ 1) Tryd.underlying23 rfl ti23 rfl (RdOr.rd hR_l hH 1 rfl) (by first | omega | (simp; done) | (simp; omega) | (rw [List.length_map]; assumption) | assumption | rfl | (simp [*]; done) | (simp [*]; omega)) _ (dc_at (by assumption) (by first | omega | (simp; done) | (simp; omega) | (rw [List.length_map]; assumption) | assumption | rfl | (simp [*]; done) | (simp [*]; omega)))) rfl fun a hA => ?_
    refine sl hA (lo_buildD (ls := [_]) hH Tryd.underlying25 ti23 rfl rfl rfl (by decide) (by decide) (by first | assumption | exact Dg.one (by first | assumption | (rw [List.length_map]; assumption) | rfl | exact sha_length _ | (simp; done) | (simp [*]; done) | omega) | exact Dg.two (by first | assumption | (rw [List.length_map]; assumption) | rfl | exact sha_length _ | (simp; done) | (simp [*]; done) | omega) (by first | assumption | (rw [List.length_map]; assumption) | rfl | exact sha_length _ | (simp; done) | (simp [*]; done) | omega))) rfl ?_
    clear hH; rintro v_t34 w ⟨N_t34, hO_t34, hH⟩ a hA
    replace hH := hH.pick [1, 0, 2] (Hs' := [_, _, _]) rfl
    refine sl hA (lo_appD hH Tryd.underlying25 Tryd.underlying25 (.inl rfl) ti23 rfl rfl rfl hO_o (Own.rd0 hO_t34 hH 1 rfl) (by first | omega | (simp; omega)) (by first | omega | (simp; omega))) rfl ?_
    clear hH; rintro v_t35 w ⟨N_t35, hO_t35, hH⟩ a hA
    refine sq hA (q_assign rfl) rfl fun a hA => ?_
    refine wpList_nil ?_
    refine hK10 _ _ ?_
    clear hK10
    refine wp_region_lit ?_
    refine sq hA (q_move rfl) rfl fun a hA => ?_
    refine sq hA (q_shrI (n := 1) 2 rfl rfl (by decide) (by decide) (by omega)) rfl fun a hA => ?_
    rw [show ((x : Nat) : Int) / 2 = ((i / 2 ^ (k + 1) : Nat) : Int) by rw [hx]; exact half_pow i k] at hA
    refine sq hA (q_assign rfl) rfl fun a hA => ?_
    refine wpList_nil ?_
    refine block_normal ?_
    refine hK9 _ _ ?_
    clear hK9
    refine wp_region_lit ?_
    refine sq hA (q_move rfl) rfl fun a hA => ?_
    refine sl hA (lo_call fn77 rfl (level_any (hg.mono0 hH) v_l (lvls ls k) (lvls_dg hd k) (RdOr.rd hR_l hH 2 rfl) (by omega))) rfl ?_
    rintro _ w ⟨v_t27, N_t27, rfl, hO_t27, hC⟩ a hA
    replace hH := HS.call0 hH hC
    clear hC
    refine sq hA (q_assign rfl) rfl fun a hA => ?_
    refine wpList_nil ?_
    replace hH := hH.pick [1, 0, 2, 3] (Hs' := [_, _, _, _]) rfl
    replace hH := hH.pick [0, 1] (Hs' := [_, _]) rfl
    exact ⟨_, by omega, k + 1, v_t35, v_t27, N_t35, N_t27, hA.sub ⟨rfl, rfl, rfl, rfl, rfl, trivial⟩, hH, by omega, by (rw [pth, ← hx]; exact hO_t35), by exact .inr hO_t27, rfl⟩
  · skip
    have hke : k = m := by have := pow_one (k := m - k) (by omega); omega
    refine wp_exit ?_
    refine then_exit ?_
    refine then_exit ?_
    refine exit_here ?_
    refine hK5 _ _ ?_
    clear hK5
    replace hA := hA.sub (E' := [(6, _), (5, _), (4, _)]) ⟨rfl, rfl, rfl, trivial⟩
    refine wp_seq_k fun K11 hK11 => ?_
    refine wp_region_lit ?_
    refine sq hA (q_move rfl) rfl fun a hA => ?_
    refine sq hA (q_assign rfl) rfl fun a hA => ?_
    refine sq hA (q_assign rfl) rfl fun a hA => ?_
    refine wpList_nil ?_
    refine hK11 _ _ ?_
    clear hK11
    replace hA := hA.sub (E' := [(5, _), (4, _)]) ⟨rfl, rfl, trivial⟩
    refine wp_ret ?_
    refine post_ret hA (res_2 rfl hA rfl rfl) ?_
    replace hH := hH.pick [0] (Hs' := [_]) rfl
    exact ⟨_, rfl, v_o, N_o, rfl, hke ▸ hO_o, hH⟩

theorem root_tot {w0 : World} {lv : Nat} (hg : Gl lv w0) (v : Value) (ls : List Bs) (hd : Dg ls) (hr : RdD [] w0 v ls) : Calls Tryd.prog 42 #[v] w0 (Ret fun r w' => r = .tuple #[.agg ((rootV ls).1.map B8).toArray, I (rootV ls).2] ∧ HS [] w0 w' []) := by
  by_cases h : Pw ls.length
  · obtain ⟨m, hm, h⟩ := h
    rw [rootV_ok hm h]
    exact root_any hg v ls hd hr m hm h
  · rw [rootV_bad h]
    exact root_bad v ls hd hr h
theorem refroot_tot {w0 : World} {lv : Nat} (hg : Gl (lv + 2) w0) (v : Value) (ls : List Bs) (hd : Dg ls) (hr : RdD [] w0 v ls) : Calls Tryd.prog 44 #[v] w0 (Ret fun r w' => r = .tuple #[.agg ((rootV ls).1.map B8).toArray, I (rootV ls).2] ∧ HS [] w0 w' []) := by
  by_cases h : Pw ls.length
  · obtain ⟨m, hm, h⟩ := h
    rw [rootV_ok hm h]
    exact refroot_any hg v ls hd hr m hm h
  · rw [rootV_bad h]
    exact refroot_bad v ls hd hr h
theorem path_tot {w0 : World} {lv : Nat} (hg : Gl lv w0) (v : Value) (ls : List Bs) (i : Int) (hd : Dg ls) (hr : RdD [] w0 v ls) : Calls Tryd.prog 47 #[v, I i] w0 (Ret fun r w' => ∃ v' N, r = .tuple #[v', I (pathV ls i).2] ∧ OwD 23 v' (pathV ls i).1 N ∧ HS [] w0 w' [N]) := by
  have nil : Calls Tryd.prog 47 #[v, I i] w0 (Ret fun r w' => r = .tuple #[.slice none 0 0, I 1] ∧ HS [] w0 w' []) → pathV ls i = ([], 1) → Calls Tryd.prog 47 #[v, I i] w0 (Ret fun r w' => ∃ v' N, r = .tuple #[v', I (pathV ls i).2] ∧ OwD 23 v' (pathV ls i).1 N ∧ HS [] w0 w' [N]) := fun h e => by
    rw [e]
    exact h.mono fun e w' he => by
      obtain ⟨r, h1, h2, h3⟩ := he
      exact ⟨r, h1, _, [], h2, Own.nil _ _, h3.nilFront⟩
  by_cases h : Pw ls.length
  · obtain ⟨m, hm, h⟩ := h
    by_cases h2 : i < 0 ∨ (ls.length : Int) ≤ i
    · exact nil (path_idx v ls hd hr i m hm h h2) (pathV_bad (.inr h2))
    · obtain ⟨j, rfl⟩ : ∃ j : Nat, i = j := ⟨i.toNat, by omega⟩
      rw [pathV_ok hm h (by omega)]
      exact path_any hg v ls hd hr m j hm h (by omega)
  · exact nil (path_len v ls hd hr i h) (pathV_bad (.inl h))
theorem refpath_tot {w0 : World} {lv : Nat} (hg : Gl (lv + 2) w0) (v : Value) (ls : List Bs) (i : Int) (hd : Dg ls) (hr : RdD [] w0 v ls) : Calls Tryd.prog 50 #[v, I i] w0 (Ret fun r w' => ∃ v' N, r = .tuple #[v', I (pathV ls i).2] ∧ OwD 23 v' (pathV ls i).1 N ∧ HS [] w0 w' [N]) := by
  have nil : Calls Tryd.prog 50 #[v, I i] w0 (Ret fun r w' => r = .tuple #[.slice none 0 0, I 1] ∧ HS [] w0 w' []) → pathV ls i = ([], 1) → Calls Tryd.prog 50 #[v, I i] w0 (Ret fun r w' => ∃ v' N, r = .tuple #[v', I (pathV ls i).2] ∧ OwD 23 v' (pathV ls i).1 N ∧ HS [] w0 w' [N]) := fun h e => by
    rw [e]
    exact h.mono fun e w' he => by
      obtain ⟨r, h1, h2, h3⟩ := he
      exact ⟨r, h1, _, [], h2, Own.nil _ _, h3.nilFront⟩
  by_cases h : Pw ls.length
  · obtain ⟨m, hm, h⟩ := h
    by_cases h2 : i < 0 ∨ (ls.length : Int) ≤ i
    · exact nil (refpath_idx v ls hd hr i m hm h h2) (pathV_bad (.inr h2))
    · obtain ⟨j, rfl⟩ : ∃ j : Nat, i = j := ⟨i.toNat, by omega⟩
      rw [pathV_ok hm h (by omega)]
      exact refpath_any hg v ls hd hr m j hm h (by omega)
  · exact nil (refpath_len v ls hd hr i h) (pathV_bad (.inl h))
end Go.Proofs.YtipjpbfledddaaaDoor
