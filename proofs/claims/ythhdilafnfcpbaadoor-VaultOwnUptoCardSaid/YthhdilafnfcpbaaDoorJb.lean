/- Layer 10 (tape): cut, synced, read; a new tape. -/
import Derived.Test.YthhdilafnfcpbaaDoorJa
import Derived.Test.YthhdilafnfcpbaaDoorMza
namespace Go.Proofs.YthhdilafnfcpbaaDoor
open Go
set_option linter.unusedVariables false
set_option linter.unusedSimpArgs false
set_option maxRecDepth 100000

theorem cut_down {w0 : World} (b_t i : Nat) (hi : i < 4) (vs : Nat → Value) (f : Int) (hf9 : f ≤ 9223372036854775807) (now : Bs) (M_n : Hl) (hO_n : Ow B8 5 (vs (3 * i + 1)) now M_n) (n : Nat) (hn : n ≤ now.length) (hH : HS (doms [[(b_t, Obj.cells (tpC vs f true).toArray 66 (0, 0))], M_n]) w0 w0 [[(b_t, Obj.cells (tpC vs f true).toArray 66 (0, 0))], M_n]) :
    Calls Tryd.prog 49 #[(.pointer (some ⟨b_t, 0, none⟩)), I i, I n] w0 (Ret fun r w' => r = I 100 ∧ HS (doms [[(b_t, Obj.cells (tpC vs f true).toArray 66 (0, 0))], M_n]) w0 w' [[(b_t, Obj.cells (tpC vs f true).toArray 66 (0, 0))], M_n]) := by
 refine start (n := 62) (E := [(0, _), (1, _), (2, _)]) Tryd.func49 rfl rfl rfl (args_look rfl) ?_
 intro a hA
 refine wp_seq_k fun K1 hK1 => ?_
 refine wp_region_lit ?_
 refine asg hA fun a hA => ?_
 refine wpList_nil ?_
 refine hK1 _ _ ?_
 clear hK1
 refine wp_seq_k fun K2 hK2 => ?_
 refine wp_region_lit ?_
 refine mv hA fun a hA => ?_
 refine mv hA fun a hA => ?_
 refine sl hA (lo_call fn36 rfl (at_any b_t i hi)) rfl ?_
 rintro _ w ⟨rfl, hC⟩ a hA
 replace hH := HS.call0 hH hC
 clear hC
 refine mv hA fun a hA => ?_
 refine sq hA (q_extract rfl rfl) rfl fun a hA => ?_
 refine sq hA (q_extract rfl rfl) rfl fun a hA => ?_
 refine asg hA fun a hA => ?_
 refine asg hA fun a hA => ?_
 refine wpList_nil ?_
 refine hK2 _ _ ?_
 clear hK2
 replace hA := hA.s5 8 7 6 0 2
 refine wp_seq_k fun K3 hK3 => ?_
 refine wp_block ?_
 refine wp_seq_k fun K4 hK4 => ?_
 refine wp_region_lit ?_
 refine mv hA fun a hA => ?_
 refine sq hA (q_neqI (n := 0) rfl rfl) rfl fun a hA => ?_
 refine asg hA fun a hA => ?_
 refine wpList_nil ?_
 refine hK4 _ _ ?_
 clear hK4
 replace hA := hA.s6 15 8 7 6 0 2
 refine cond_d hA rfl (fun hnn => absurd hnn ((fun h => h rfl))) (fun _ => ?_)
 refine wp_seq_k fun K5 hK5 => ?_
 refine wp_region_lit ?_
 refine mv hA fun a hA => ?_
 refine sq hA (q_lssI (n := 0) rfl rfl) rfl fun a hA => ?_
 replace hA := hA.decF (by omega)
 refine mv hA fun a hA => ?_
 refine gq hA rfl rfl (q_move rfl) rfl fun a hA => ?_
 refine gq hA rfl rfl (q_move rfl) rfl fun a hA => ?_
 refine gq hA rfl rfl (q_nilCheck rfl) rfl fun a hA => ?_
 refine gq hA rfl rfl (q_fldo (3 * i) (3 * i + 1) Tryd.underlying63 rfl rfl ti32 rfl) rfl fun a hA => ?_
 refine gq hA rfl rfl (q_loadB hH 0 rfl (List.mem_singleton.2 rfl) Tryd.underlying32 rfl rfl (tpC_at (by omega))) rfl fun a hA => ?_
 refine gq hA rfl rfl (q_len Tryd.underlying32 rfl (Own.shp hO_n)) rfl fun a hA => ?_
 refine gq hA rfl rfl (q_gtrI rfl rfl) rfl fun a hA => ?_
 replace hA := hA.decF (by omega)
 refine sq hA (q_pick_f rfl rfl) rfl fun a hA => ?_
 refine asg hA fun a hA => ?_
 refine wpList_nil ?_
 refine hK5 _ _ ?_
 clear hK5
 replace hA := hA.s5 19 7 6 0 2
 refine cond_f hA rfl ?_
 refine wp_seq_k fun K6 hK6 => ?_
 refine wp_region_lit ?_
 refine mv hA fun a hA => ?_
 refine sq hA (q_nilCheck rfl) rfl fun a hA => ?_
 refine sq hA (q_fld 13 Tryd.underlying66 rfl rfl ti4 rfl) rfl fun a hA => ?_
 refine sq hA (q_loadB hH 0 rfl (List.mem_singleton.2 rfl) Tryd.underlying4 rfl rfl rfl) rfl fun a hA => ?_
 refine mv hA fun a hA => ?_
 refine gs hA rfl rfl rfl rfl fun a hA => ?_
 refine gs hA rfl rfl rfl rfl fun a hA => ?_
 refine gs hA rfl rfl rfl rfl fun a hA => ?_
 refine sq hA (q_pick_t rfl rfl) rfl fun a hA => ?_
 refine asg hA fun a hA => ?_
 refine wpList_nil ?_
 refine hK6 _ _ ?_
 clear hK6
 replace hA := hA.s4 31 7 6 2
 refine cond_t hA rfl ?_
 refine wp_seq_k fun K7 hK7 => ?_
 refine wp_region_lit ?_
 refine asg hA fun a hA => ?_
 refine wpList_nil ?_
 refine hK7 _ _ ?_
 clear hK7
 replace hA := hA.s3 6 7 2
 refine wp_ret ?_
 refine block_ret ?_
 refine then_ret ?_
 refine post_ret hA (res_1 rfl hA rfl) ?_
 exact ⟨_, rfl, rfl, hH⟩

theorem cut_no {w0 : World} (b_t i : Nat) (hi : i < 4) (vs : Nat → Value) (f : Int) (hf9 : f ≤ 9223372036854775807) (now : Bs) (M_n : Hl) (hO_n : Ow B8 5 (vs (3 * i + 1)) now M_n) (n : Nat) (hn : n ≤ now.length) (hz : f = 0) (hH : HS (doms [[(b_t, Obj.cells (tpC vs f false).toArray 66 (0, 0))], M_n]) w0 w0 [[(b_t, Obj.cells (tpC vs f false).toArray 66 (0, 0))], M_n]) :
    Calls Tryd.prog 49 #[(.pointer (some ⟨b_t, 0, none⟩)), I i, I n] w0 (Ret fun r w' => r = I 100 ∧ HS (doms [[(b_t, Obj.cells (tpC vs f false).toArray 66 (0, 0))], M_n]) w0 w' [[(b_t, Obj.cells (tpC vs f true).toArray 66 (0, 0))], M_n]) := by
 refine start (n := 62) (E := [(0, _), (1, _), (2, _)]) Tryd.func49 rfl rfl rfl (args_look rfl) ?_
 intro a hA
 refine wp_seq_k fun K1 hK1 => ?_
 refine wp_region_lit ?_
 refine asg hA fun a hA => ?_
 refine wpList_nil ?_
 refine hK1 _ _ ?_
 clear hK1
 refine wp_seq_k fun K2 hK2 => ?_
 refine wp_region_lit ?_
 refine mv hA fun a hA => ?_
 refine mv hA fun a hA => ?_
 refine sl hA (lo_call fn36 rfl (at_any b_t i hi)) rfl ?_
 rintro _ w ⟨rfl, hC⟩ a hA
 replace hH := HS.call0 hH hC
 clear hC
 refine mv hA fun a hA => ?_
 refine sq hA (q_extract rfl rfl) rfl fun a hA => ?_
 refine sq hA (q_extract rfl rfl) rfl fun a hA => ?_
 refine asg hA fun a hA => ?_
 refine asg hA fun a hA => ?_
 refine wpList_nil ?_
 refine hK2 _ _ ?_
 clear hK2
 replace hA := hA.s5 8 7 6 0 2
 refine wp_seq_k fun K3 hK3 => ?_
 refine wp_block ?_
 refine wp_seq_k fun K4 hK4 => ?_
 refine wp_region_lit ?_
 refine mv hA fun a hA => ?_
 refine sq hA (q_neqI (n := 0) rfl rfl) rfl fun a hA => ?_
 refine asg hA fun a hA => ?_
 refine wpList_nil ?_
 refine hK4 _ _ ?_
 clear hK4
 replace hA := hA.s6 15 8 7 6 0 2
 refine cond_d hA rfl (fun hnn => absurd hnn ((fun h => h rfl))) (fun _ => ?_)
 refine wp_seq_k fun K5 hK5 => ?_
 refine wp_region_lit ?_
 refine mv hA fun a hA => ?_
 refine sq hA (q_lssI (n := 0) rfl rfl) rfl fun a hA => ?_
 replace hA := hA.decF (by omega)
 refine mv hA fun a hA => ?_
 refine gq hA rfl rfl (q_move rfl) rfl fun a hA => ?_
 refine gq hA rfl rfl (q_move rfl) rfl fun a hA => ?_
 refine gq hA rfl rfl (q_nilCheck rfl) rfl fun a hA => ?_
 refine gq hA rfl rfl (q_fldo (3 * i) (3 * i + 1) Tryd.underlying63 rfl rfl ti32 rfl) rfl fun a hA => ?_
 refine gq hA rfl rfl (q_loadB hH 0 rfl (List.mem_singleton.2 rfl) Tryd.underlying32 rfl rfl (tpC_at (by omega))) rfl fun a hA => ?_
 refine gq hA rfl rfl (q_len Tryd.underlying32 rfl (Own.shp hO_n)) rfl fun a hA => ?_
 refine gq hA rfl rfl (q_gtrI rfl rfl) rfl fun a hA => ?_
 replace hA := hA.decF (by omega)
 refine sq hA (q_pick_f rfl rfl) rfl fun a hA => ?_
 refine asg hA fun a hA => ?_
 refine wpList_nil ?_
 refine hK5 _ _ ?_
 clear hK5
 replace hA := hA.s5 19 7 6 0 2
 refine cond_f hA rfl ?_
 refine wp_seq_k fun K6 hK6 => ?_
 refine wp_region_lit ?_
 refine mv hA fun a hA => ?_
 refine sq hA (q_nilCheck rfl) rfl fun a hA => ?_
 refine sq hA (q_fld 13 Tryd.underlying66 rfl rfl ti4 rfl) rfl fun a hA => ?_
 refine sq hA (q_loadB hH 0 rfl (List.mem_singleton.2 rfl) Tryd.underlying4 rfl rfl rfl) rfl fun a hA => ?_
 refine mv hA fun a hA => ?_
 refine gq hA rfl rfl (q_move rfl) rfl fun a hA => ?_
 refine gl hA rfl rfl (lo_call fn37 rfl (take_no b_t vs f false hz (HS.handed (Ns1 := [_]) hH))) rfl ?_
 rintro _ w ⟨rfl, hC⟩ a hA
 replace hH := HS.call (Ns1 := [_]) hH hC
 clear hC
 refine gq hA rfl rfl (q_not rfl) rfl fun a hA => ?_
 refine sq hA (q_pick_f rfl rfl) rfl fun a hA => ?_
 refine asg hA fun a hA => ?_
 refine wpList_nil ?_
 refine hK6 _ _ ?_
 clear hK6
 replace hA := hA.s4 31 7 6 2
 refine cond_t hA rfl ?_
 refine wp_seq_k fun K7 hK7 => ?_
 refine wp_region_lit ?_
 refine asg hA fun a hA => ?_
 refine wpList_nil ?_
 refine hK7 _ _ ?_
 clear hK7
 replace hA := hA.s3 6 7 2
 refine wp_ret ?_
 refine block_ret ?_
 refine then_ret ?_
 refine post_ret hA (res_1 rfl hA rfl) ?_
 exact ⟨_, rfl, rfl, hH⟩

theorem cut_ok {w0 : World} (b_t i : Nat) (hi : i < 4) (vs : Nat → Value) (f : Int) (hf9 : f ≤ 9223372036854775807) (now : Bs) (M_n : Hl) (hO_n : Ow B8 5 (vs (3 * i + 1)) now M_n) (op : List (Bool × Nat)) (M_o : Hl) (hO_o : Own 76 2 (vs (3 * i + 2)) (op).length (cellsS (op)) M_o) (hop : op.length ≤ 2097152) (n : Nat) (hn : n ≤ now.length) (hz : ¬ f = 0) (hH : HS (doms [[(b_t, Obj.cells (tpC vs f false).toArray 66 (0, 0))], M_n, M_o]) w0 w0 [[(b_t, Obj.cells (tpC vs f false).toArray 66 (0, 0))], M_n, M_o]) :
    Calls Tryd.prog 49 #[(.pointer (some ⟨b_t, 0, none⟩)), I i, I n] w0 (Ret fun r w' => ∃ vx N_n' N_o', r = I 0 ∧ (∀ k, k ≠ 3 * i + 1 → k ≠ 3 * i + 2 → vx k = vs k) ∧ Ow B8 5 (vx (3 * i + 1)) (now.take n) N_n' ∧ Own 76 2 (vx (3 * i + 2)) (op ++ [(true, n)]).length (cellsS (op ++ [(true, n)])) N_o' ∧ HS (doms [[(b_t, Obj.cells (tpC vs f false).toArray 66 (0, 0))], M_n, M_o]) w0 w' [[(b_t, Obj.cells (tpC vx (fz f 1) false).toArray 66 (0, 0))], N_n', N_o']) := by
 refine start (n := 62) (E := [(0, _), (1, _), (2, _)]) Tryd.func49 rfl rfl rfl (args_look rfl) ?_
 intro a hA
 refine wp_seq_k fun K1 hK1 => ?_
 refine wp_region_lit ?_
 refine asg hA fun a hA => ?_
 refine wpList_nil ?_
 refine hK1 _ _ ?_
 clear hK1
 refine wp_seq_k fun K2 hK2 => ?_
 refine wp_region_lit ?_
 refine mv hA fun a hA => ?_
 refine mv hA fun a hA => ?_
 refine sl hA (lo_call fn36 rfl (at_any b_t i hi)) rfl ?_
 rintro _ w ⟨rfl, hC⟩ a hA
 replace hH := HS.call0 hH hC
 clear hC
 refine mv hA fun a hA => ?_
 refine sq hA (q_extract rfl rfl) rfl fun a hA => ?_
 refine sq hA (q_extract rfl rfl) rfl fun a hA => ?_
 refine asg hA fun a hA => ?_
 refine asg hA fun a hA => ?_
 refine wpList_nil ?_
 refine hK2 _ _ ?_
 clear hK2
 replace hA := hA.s5 8 7 6 0 2
 refine wp_seq_k fun K3 hK3 => ?_
 refine wp_block ?_
 refine wp_seq_k fun K4 hK4 => ?_
 refine wp_region_lit ?_
 refine mv hA fun a hA => ?_
 refine sq hA (q_neqI (n := 0) rfl rfl) rfl fun a hA => ?_
 refine asg hA fun a hA => ?_
 refine wpList_nil ?_
 refine hK4 _ _ ?_
 clear hK4
 replace hA := hA.s6 15 8 7 6 0 2
 refine cond_d hA rfl (fun hnn => absurd hnn ((fun h => h rfl))) (fun _ => ?_)
 refine wp_seq_k fun K5 hK5 => ?_
 refine wp_region_lit ?_
 refine mv hA fun a hA => ?_
 refine sq hA (q_lssI (n := 0) rfl rfl) rfl fun a hA => ?_
 replace hA := hA.decF (by omega)
 refine mv hA fun a hA => ?_
 refine gq hA rfl rfl (q_move rfl) rfl fun a hA => ?_
 refine gq hA rfl rfl (q_move rfl) rfl fun a hA => ?_
 refine gq hA rfl rfl (q_nilCheck rfl) rfl fun a hA => ?_
 refine gq hA rfl rfl (q_fldo (3 * i) (3 * i + 1) Tryd.underlying63 rfl rfl ti32 rfl) rfl fun a hA => ?_
 refine gq hA rfl rfl (q_loadB hH 0 rfl (List.mem_singleton.2 rfl) Tryd.underlying32 rfl rfl (tpC_at (by omega))) rfl fun a hA => ?_
 refine gq hA rfl rfl (q_len Tryd.underlying32 rfl (Own.shp hO_n)) rfl fun a hA => ?_
 refine gq hA rfl rfl (q_gtrI rfl rfl) rfl fun a hA => ?_
 replace hA := hA.decF (by omega)
 refine sq hA (q_pick_f rfl rfl) rfl fun a hA => ?_
 refine asg hA fun a hA => ?_
 refine wpList_nil ?_
 refine hK5 _ _ ?_
 clear hK5
 replace hA := hA.s5 19 7 6 0 2
 refine cond_f hA rfl ?_
 refine wp_seq_k fun K6 hK6 => ?_
 refine wp_region_lit ?_
 refine mv hA fun a hA => ?_
 refine sq hA (q_nilCheck rfl) rfl fun a hA => ?_
 refine sq hA (q_fld 13 Tryd.underlying66 rfl rfl ti4 rfl) rfl fun a hA => ?_
 refine sq hA (q_loadB hH 0 rfl (List.mem_singleton.2 rfl) Tryd.underlying4 rfl rfl rfl) rfl fun a hA => ?_
 refine mv hA fun a hA => ?_
 refine gq hA rfl rfl (q_move rfl) rfl fun a hA => ?_
 refine gl hA rfl rfl (lo_call fn37 rfl (take_ok b_t vs f false (by first | assumption | exact fz_lt hf9) hz (HS.handed (Ns1 := [_]) hH))) rfl ?_
 rintro _ w ⟨rfl, hC⟩ a hA
 replace hH := HS.call (Ns1 := [_]) hH hC
 clear hC
 refine gq hA rfl rfl (q_not rfl) rfl fun a hA => ?_
 refine sq hA (q_pick_f rfl rfl) rfl fun a hA => ?_
 refine asg hA fun a hA => ?_
 refine wpList_nil ?_
 refine hK6 _ _ ?_
 clear hK6
 replace hA := hA.s4 31 7 6 2
 refine cond_f hA rfl ?_
 refine wp_skip ?_
 refine block_normal ?_
 refine hK3 _ _ ?_
 clear hK3
 replace hA := hA.s3 7 6 2
 refine wp_seq_k fun K7 hK7 => ?_
 refine wp_region_lit ?_
 refine mv hA fun a hA => ?_
 refine mv hA fun a hA => ?_
 refine sq hA (q_nilCheck rfl) rfl fun a hA => ?_
 refine sq hA (q_fldo (3 * i) (3 * i + 1) Tryd.underlying63 rfl rfl ti32 rfl) rfl fun a hA => ?_
 refine sq hA (q_loadB hH 0 rfl (List.mem_singleton.2 rfl) Tryd.underlying32 rfl rfl (tpC_at (by omega))) rfl fun a hA => ?_
 refine mv hA fun a hA => ?_
 refine mv hA fun a hA => ?_
 obtain ⟨v_t48, hv48, hc48, hO_t48⟩ := Own.cut3 hO_n n hn
 replace hO_t48 : Ow B8 5 v_t48 (now.take n) M_n := by have q := hO_t48; rw [Nat.mul_one, ← List.map_take] at q; unfold Ow; rw [List.length_take, Nat.min_eq_left hn]; exact q
 refine sq hA (q_slice3 Tryd.underlying32 ti5 rfl hv48 hc48 (Own.shp hO_n) rfl rfl rfl rfl hn) rfl fun a hA => ?_
 refine sq hA (q_nilCheck rfl) rfl fun a hA => ?_
 refine sq hA (q_fldo (3 * i) (3 * i + 1) Tryd.underlying63 rfl rfl ti32 rfl) rfl fun a hA => ?_
 refine s0 hA (lo_store1 hH ti32 rfl rfl (by rw [tpC_length]; omega) (Own.one hO_t48)) ?_
 clear hH; rintro _ w hH
 rw [tpC_set (by omega)] at hH
 have hO_o2 : Own 76 2 (upd vs (3 * i + 1) v_t48 (3 * i + 2)) op.length (cellsS op) M_o := by rw [upd_ne _ _ (by omega)]; exact hO_o
 refine wpList_nil ?_
 refine hK7 _ _ ?_
 clear hK7
 replace hA := hA.s3 7 6 2
 refine wp_seq_k fun K8 hK8 => ?_
 refine wp_region_lit ?_
 refine mv hA fun a hA => ?_
 refine mv hA fun a hA => ?_
 refine sq hA (q_nilCheck rfl) rfl fun a hA => ?_
 refine sq hA (q_fldo (3 * i) (3 * i + 2) Tryd.underlying63 rfl rfl ti61 rfl) rfl fun a hA => ?_
 refine sq hA (q_loadB hH 0 rfl (List.mem_singleton.2 rfl) Tryd.underlying61 rfl rfl (tpC_at (by omega))) rfl fun a hA => ?_
 refine mv hA fun a hA => ?_
 refine sq hA (q_buildC (css := [_, _]) (z := [(.bool false), (I 0)]) (BT.mk (pl := [(0, 1), (1, 1)]) (it := Tryd.t76) (by kernel_rfl) Tryd.underlying76 (by kernel_rfl) (by kernel_rfl)) rfl ⟨rfl, ⟨_, rfl, by first | rfl | (simp [Value.cells]; done) | (simp [Value.cells, *]; done), by decide⟩, rfl, ⟨_, rfl, by first | rfl | (simp [Value.cells]; done) | (simp [Value.cells, *]; done), by decide⟩, trivial⟩) rfl fun a hA => ?_
 refine sl hA (lo_buildS (cs := [Value.bool true, I (n : Int)]) hH Tryd.underlying61 ti76 rfl rfl (by decide) (by decide)) rfl ?_
 clear hH; rintro v_t58 w ⟨N_t58, hO_t58, hH⟩ a hA
 replace hH := hH.pick [3, 0, 1, 2] (Hs' := [_, _, _, _]) rfl
 refine sl hA (lo_append hH Tryd.underlying61 Tryd.underlying61 (.inl rfl) ti76 rfl rfl rfl hO_o2 (Rd.src (Own.rd0 hO_t58 hH 1 rfl)) (ones_cons rfl (ones_cons rfl ones_nil)) (by first | omega | (simp; done) | (simp; omega)) (by first | omega | (simp; done) | (simp; omega))) rfl ?_
 clear hH; rintro v_t59 w ⟨N_t59, hO_t59, hH⟩ a hA
 refine sq hA (q_nilCheck rfl) rfl fun a hA => ?_
 refine sq hA (q_fldo (3 * i) (3 * i + 2) Tryd.underlying63 rfl rfl ti61 rfl) rfl fun a hA => ?_
 replace hH := hH.pick [2, 0, 1, 3] (Hs' := [_, _, _, _]) rfl
 refine s0 hA (lo_store1 hH ti61 rfl rfl (by rw [tpC_length]; omega) (Own.one hO_t59)) ?_
 clear hH; rintro _ w hH
 rw [tpC_set (by omega)] at hH
 refine wpList_nil ?_
 refine hK8 _ _ ?_
 clear hK8
 replace hA := hA.s1 6
 refine wp_seq_k fun K9 hK9 => ?_
 refine wp_region_lit ?_
 refine asg hA fun a hA => ?_
 refine wpList_nil ?_
 refine hK9 _ _ ?_
 clear hK9
 refine wp_ret ?_
 refine post_ret hA (res_1 rfl hA rfl) ?_
 replace hH := hH.pick [0, 3, 1, 2] (Hs' := [_, _, _, _]) rfl
 replace hH := hH.pick [0, 1, 2] (Hs' := [_, _, _]) rfl
 exact ⟨_, rfl, (upd (upd vs (3 * i + 1) v_t48) (3 * i + 2) v_t59), M_n, N_t59, rfl, by (intro k h1 h2; rw [upd_ne _ _ h2, upd_ne _ _ h1]), by rw [upd_ne _ _ (show 3 * i + 1 ≠ 3 * i + 2 by omega), upd_at]; exact hO_t48, by rw [upd_at, cellsS_snoc, List.length_append]; exact hO_t59, hH⟩

theorem sync_down {w0 : World} (b_t i : Nat) (hi : i < 4) (vs : Nat → Value) (f : Int) (hf9 : f ≤ 9223372036854775807) (hH : HS [b_t] w0 w0 [[(b_t, Obj.cells (tpC vs f true).toArray 66 (0, 0))]]) :
    Calls Tryd.prog 70 #[(.pointer (some ⟨b_t, 0, none⟩)), I i] w0 (Ret fun r w' => r = I 100 ∧ HS [b_t] w0 w' [[(b_t, Obj.cells (tpC vs f true).toArray 66 (0, 0))]]) := by
 refine start (n := 48) (E := [(0, _), (1, _)]) Tryd.func70 rfl rfl rfl (args_look rfl) ?_
 intro a hA
 refine wp_seq_k fun K1 hK1 => ?_
 refine wp_region_lit ?_
 refine asg hA fun a hA => ?_
 refine wpList_nil ?_
 refine hK1 _ _ ?_
 clear hK1
 refine wp_seq_k fun K2 hK2 => ?_
 refine wp_region_lit ?_
 refine mv hA fun a hA => ?_
 refine mv hA fun a hA => ?_
 refine sl hA (lo_call fn36 rfl (at_any b_t i hi)) rfl ?_
 rintro _ w ⟨rfl, hC⟩ a hA
 replace hH := HS.call0 hH hC
 clear hC
 refine mv hA fun a hA => ?_
 refine sq hA (q_extract rfl rfl) rfl fun a hA => ?_
 refine sq hA (q_extract rfl rfl) rfl fun a hA => ?_
 refine asg hA fun a hA => ?_
 refine asg hA fun a hA => ?_
 refine wpList_nil ?_
 refine hK2 _ _ ?_
 clear hK2
 replace hA := hA.s4 6 5 4 0
 refine wp_seq_k fun K3 hK3 => ?_
 refine wp_block ?_
 refine wp_seq_k fun K4 hK4 => ?_
 refine wp_region_lit ?_
 refine mv hA fun a hA => ?_
 refine sq hA (q_neqI (n := 0) rfl rfl) rfl fun a hA => ?_
 refine asg hA fun a hA => ?_
 refine wpList_nil ?_
 refine hK4 _ _ ?_
 clear hK4
 replace hA := hA.s5 13 6 5 4 0
 refine cond_d hA rfl (fun hnn => absurd hnn ((fun h => h rfl))) (fun _ => ?_)
 refine wp_seq_k fun K5 hK5 => ?_
 refine wp_region_lit ?_
 refine mv hA fun a hA => ?_
 refine sq hA (q_nilCheck rfl) rfl fun a hA => ?_
 refine sq hA (q_fld 13 Tryd.underlying66 rfl rfl ti4 rfl) rfl fun a hA => ?_
 refine sq hA (q_loadB hH 0 rfl (List.mem_singleton.2 rfl) Tryd.underlying4 rfl rfl rfl) rfl fun a hA => ?_
 refine mv hA fun a hA => ?_
 refine gs hA rfl rfl rfl rfl fun a hA => ?_
 refine gs hA rfl rfl rfl rfl fun a hA => ?_
 refine gs hA rfl rfl rfl rfl fun a hA => ?_
 refine sq hA (q_pick_t rfl rfl) rfl fun a hA => ?_
 refine asg hA fun a hA => ?_
 refine wpList_nil ?_
 refine hK5 _ _ ?_
 clear hK5
 replace hA := hA.s3 17 5 4
 refine cond_t hA rfl ?_
 refine wp_seq_k fun K6 hK6 => ?_
 refine wp_region_lit ?_
 refine asg hA fun a hA => ?_
 refine wpList_nil ?_
 refine hK6 _ _ ?_
 clear hK6
 replace hA := hA.s2 4 5
 refine wp_ret ?_
 refine block_ret ?_
 refine then_ret ?_
 refine post_ret hA (res_1 rfl hA rfl) ?_
 exact ⟨_, rfl, rfl, hH⟩

theorem sync_no {w0 : World} (b_t i : Nat) (hi : i < 4) (vs : Nat → Value) (f : Int) (hf9 : f ≤ 9223372036854775807) (hz : f = 0) (hH : HS [b_t] w0 w0 [[(b_t, Obj.cells (tpC vs f false).toArray 66 (0, 0))]]) :
    Calls Tryd.prog 70 #[(.pointer (some ⟨b_t, 0, none⟩)), I i] w0 (Ret fun r w' => r = I 100 ∧ HS [b_t] w0 w' [[(b_t, Obj.cells (tpC vs f true).toArray 66 (0, 0))]]) := by
 refine start (n := 48) (E := [(0, _), (1, _)]) Tryd.func70 rfl rfl rfl (args_look rfl) ?_
 intro a hA
 refine wp_seq_k fun K1 hK1 => ?_
 refine wp_region_lit ?_
 refine asg hA fun a hA => ?_
 refine wpList_nil ?_
 refine hK1 _ _ ?_
 clear hK1
 refine wp_seq_k fun K2 hK2 => ?_
 refine wp_region_lit ?_
 refine mv hA fun a hA => ?_
 refine mv hA fun a hA => ?_
 refine sl hA (lo_call fn36 rfl (at_any b_t i hi)) rfl ?_
 rintro _ w ⟨rfl, hC⟩ a hA
 replace hH := HS.call0 hH hC
 clear hC
 refine mv hA fun a hA => ?_
 refine sq hA (q_extract rfl rfl) rfl fun a hA => ?_
 refine sq hA (q_extract rfl rfl) rfl fun a hA => ?_
 refine asg hA fun a hA => ?_
 refine asg hA fun a hA => ?_
 refine wpList_nil ?_
 refine hK2 _ _ ?_
 clear hK2
 replace hA := hA.s4 6 5 4 0
 refine wp_seq_k fun K3 hK3 => ?_
 refine wp_block ?_
 refine wp_seq_k fun K4 hK4 => ?_
 refine wp_region_lit ?_
 refine mv hA fun a hA => ?_
 refine sq hA (q_neqI (n := 0) rfl rfl) rfl fun a hA => ?_
 refine asg hA fun a hA => ?_
 refine wpList_nil ?_
 refine hK4 _ _ ?_
 clear hK4
 replace hA := hA.s5 13 6 5 4 0
 refine cond_d hA rfl (fun hnn => absurd hnn ((fun h => h rfl))) (fun _ => ?_)
 refine wp_seq_k fun K5 hK5 => ?_
 refine wp_region_lit ?_
 refine mv hA fun a hA => ?_
 refine sq hA (q_nilCheck rfl) rfl fun a hA => ?_
 refine sq hA (q_fld 13 Tryd.underlying66 rfl rfl ti4 rfl) rfl fun a hA => ?_
 refine sq hA (q_loadB hH 0 rfl (List.mem_singleton.2 rfl) Tryd.underlying4 rfl rfl rfl) rfl fun a hA => ?_
 refine mv hA fun a hA => ?_
 refine gq hA rfl rfl (q_move rfl) rfl fun a hA => ?_
 refine gl hA rfl rfl (lo_call fn37 rfl (take_no b_t vs f false hz (HS.handed (Ns1 := [_]) hH))) rfl ?_
 rintro _ w ⟨rfl, hC⟩ a hA
 replace hH := HS.call (Ns1 := [_]) hH hC
 clear hC
 refine gq hA rfl rfl (q_not rfl) rfl fun a hA => ?_
 refine sq hA (q_pick_f rfl rfl) rfl fun a hA => ?_
 refine asg hA fun a hA => ?_
 refine wpList_nil ?_
 refine hK5 _ _ ?_
 clear hK5
 replace hA := hA.s3 17 5 4
 refine cond_t hA rfl ?_
 refine wp_seq_k fun K6 hK6 => ?_
 refine wp_region_lit ?_
 refine asg hA fun a hA => ?_
 refine wpList_nil ?_
 refine hK6 _ _ ?_
 clear hK6
 replace hA := hA.s2 4 5
 refine wp_ret ?_
 refine block_ret ?_
 refine then_ret ?_
 refine post_ret hA (res_1 rfl hA rfl) ?_
 exact ⟨_, rfl, rfl, hH⟩

theorem sync_ok {w0 : World} (b_t i : Nat) (hi : i < 4) (vs : Nat → Value) (f : Int) (hf9 : f ≤ 9223372036854775807) (now : Bs) (M_n : Hl) (hO_n : Ow B8 5 (vs (3 * i + 1)) now M_n) (hnl : now.length ≤ 1048576) (op : List (Bool × Nat)) (M_o : Hl) (hO_o : Own 76 2 (vs (3 * i + 2)) (op).length (cellsS (op)) M_o) (hop : op.length ≤ 2097152) (hz : ¬ f = 0) (hH : HS (doms [[(b_t, Obj.cells (tpC vs f false).toArray 66 (0, 0))], M_n, M_o]) w0 w0 [[(b_t, Obj.cells (tpC vs f false).toArray 66 (0, 0))], M_n, M_o]) :
    Calls Tryd.prog 70 #[(.pointer (some ⟨b_t, 0, none⟩)), I i] w0 (Ret fun r w' => ∃ vx N_s N_o', r = I 0 ∧ (∀ k, k ≠ 3 * i → k ≠ 3 * i + 2 → vx k = vs k) ∧ Ow B8 5 (vx (3 * i)) now N_s ∧ Own 76 2 (vx (3 * i + 2)) (([] : List (Bool × Nat))).length (cellsS (([] : List (Bool × Nat)))) N_o' ∧ HS (doms [[(b_t, Obj.cells (tpC vs f false).toArray 66 (0, 0))], M_n, M_o]) w0 w' [[(b_t, Obj.cells (tpC vx (fz f 1) false).toArray 66 (0, 0))], M_n, N_s, N_o']) := by
 refine start (n := 48) (E := [(0, _), (1, _)]) Tryd.func70 rfl rfl rfl (args_look rfl) ?_
 intro a hA
 refine wp_seq_k fun K1 hK1 => ?_
 refine wp_region_lit ?_
 refine asg hA fun a hA => ?_
 refine wpList_nil ?_
 refine hK1 _ _ ?_
 clear hK1
 refine wp_seq_k fun K2 hK2 => ?_
 refine wp_region_lit ?_
 refine mv hA fun a hA => ?_
 refine mv hA fun a hA => ?_
 refine sl hA (lo_call fn36 rfl (at_any b_t i hi)) rfl ?_
 rintro _ w ⟨rfl, hC⟩ a hA
 replace hH := HS.call0 hH hC
 clear hC
 refine mv hA fun a hA => ?_
 refine sq hA (q_extract rfl rfl) rfl fun a hA => ?_
 refine sq hA (q_extract rfl rfl) rfl fun a hA => ?_
 refine asg hA fun a hA => ?_
 refine asg hA fun a hA => ?_
 refine wpList_nil ?_
 refine hK2 _ _ ?_
 clear hK2
 replace hA := hA.s4 6 5 4 0
 refine wp_seq_k fun K3 hK3 => ?_
 refine wp_block ?_
 refine wp_seq_k fun K4 hK4 => ?_
 refine wp_region_lit ?_
 refine mv hA fun a hA => ?_
 refine sq hA (q_neqI (n := 0) rfl rfl) rfl fun a hA => ?_
 refine asg hA fun a hA => ?_
 refine wpList_nil ?_
 refine hK4 _ _ ?_
 clear hK4
 replace hA := hA.s5 13 6 5 4 0
 refine cond_d hA rfl (fun hnn => absurd hnn ((fun h => h rfl))) (fun _ => ?_)
 refine wp_seq_k fun K5 hK5 => ?_
 refine wp_region_lit ?_
 refine mv hA fun a hA => ?_
 refine sq hA (q_nilCheck rfl) rfl fun a hA => ?_
 refine sq hA (q_fld 13 Tryd.underlying66 rfl rfl ti4 rfl) rfl fun a hA => ?_
 refine sq hA (q_loadB hH 0 rfl (List.mem_singleton.2 rfl) Tryd.underlying4 rfl rfl rfl) rfl fun a hA => ?_
 refine mv hA fun a hA => ?_
 refine gq hA rfl rfl (q_move rfl) rfl fun a hA => ?_
 refine gl hA rfl rfl (lo_call fn37 rfl (take_ok b_t vs f false (by first | assumption | exact fz_lt hf9) hz (HS.handed (Ns1 := [_]) hH))) rfl ?_
 rintro _ w ⟨rfl, hC⟩ a hA
 replace hH := HS.call (Ns1 := [_]) hH hC
 clear hC
 refine gq hA rfl rfl (q_not rfl) rfl fun a hA => ?_
 refine sq hA (q_pick_f rfl rfl) rfl fun a hA => ?_
 refine asg hA fun a hA => ?_
 refine wpList_nil ?_
 refine hK5 _ _ ?_
 clear hK5
 replace hA := hA.s3 17 5 4
 refine cond_f hA rfl ?_
 refine wp_skip ?_
 refine block_normal ?_
 refine hK3 _ _ ?_
 clear hK3
 replace hA := hA.s2 5 4
 refine wp_seq_k fun K6 hK6 => ?_
 refine wp_region_lit ?_
 refine mv hA fun a hA => ?_
 refine sl hA (lo_bs (f := B8) (e := 5) ([]) hH rfl rfl (fun w => by kernel_rfl)) rfl ?_
 clear hH; rintro v_t28 w ⟨N_t28, hO_t28, hH⟩ a hA
 refine mv hA fun a hA => ?_
 refine sq hA (q_nilCheck rfl) rfl fun a hA => ?_
 refine sq hA (q_fldo (3 * i) (3 * i + 1) Tryd.underlying63 rfl rfl ti32 rfl) rfl fun a hA => ?_
 refine sq hA (q_loadB hH 1 rfl (List.mem_singleton.2 rfl) Tryd.underlying32 rfl rfl (tpC_at (by omega))) rfl fun a hA => ?_
 refine sl hA (lo_appm hH Tryd.underlying32 Tryd.underlying32 (.inl rfl) ti5 rfl rfl rfl hO_t28 (Rd.src (Own.rd0 hO_n hH 2 rfl)) (one_B8 _) (by first | omega | (simp; done) | (simp; omega)) (by first | omega | (simp; done) | (simp; omega))) rfl ?_
 clear hH; rintro v_t33 w ⟨N_t33, hO_t33, hH⟩ a hA
 refine sq hA (q_nilCheck rfl) rfl fun a hA => ?_
 refine sq hA (q_fldo (3 * i) (3 * i) Tryd.underlying63 rfl rfl ti32 rfl) rfl fun a hA => ?_
 replace hH := hH.pick [1, 0, 2, 3] (Hs' := [_, _, _, _]) rfl
 refine s0 hA (lo_store1 hH ti32 rfl rfl (by rw [tpC_length]; omega) (Own.one hO_t33)) ?_
 clear hH; rintro _ w hH
 rw [tpC_set (by omega)] at hH
 have hO_o2 : Own 76 2 (upd vs (3 * i) v_t33 (3 * i + 2)) op.length (cellsS op) M_o := by rw [upd_ne _ _ (by omega)]; exact hO_o
 refine wpList_nil ?_
 refine hK6 _ _ ?_
 clear hK6
 replace hA := hA.s2 5 4
 refine wp_seq_k fun K7 hK7 => ?_
 refine wp_region_lit ?_
 refine mv hA fun a hA => ?_
 refine sq hA (q_nilCheck rfl) rfl fun a hA => ?_
 refine sq hA (q_fldo (3 * i) (3 * i + 2) Tryd.underlying63 rfl rfl ti61 rfl) rfl fun a hA => ?_
 refine sq hA (q_loadB hH 0 rfl (List.mem_singleton.2 rfl) Tryd.underlying61 rfl rfl (tpC_at (by omega))) rfl fun a hA => ?_
 replace hH := hH.pick [3, 0, 1, 2] (Hs' := [_, _, _, _]) rfl
 refine s0 hA (lo_clear hH Tryd.underlying61 ti76 rfl (by intro u hu; simp [Value.cells] at hu; rcases hu with rfl | rfl <;> rfl) rfl hO_o2) ?_
 clear hH; rintro _ w ⟨N_co, cs_co, hO_o2, hH⟩
 refine wpList_nil ?_
 refine hK7 _ _ ?_
 clear hK7
 replace hA := hA.s2 5 4
 refine wp_seq_k fun K8 hK8 => ?_
 refine wp_region_lit ?_
 refine mv hA fun a hA => ?_
 refine mv hA fun a hA => ?_
 refine sq hA (q_nilCheck rfl) rfl fun a hA => ?_
 refine sq hA (q_fldo (3 * i) (3 * i + 2) Tryd.underlying63 rfl rfl ti61 rfl) rfl fun a hA => ?_
 refine sq hA (q_loadB hH 1 rfl (List.mem_singleton.2 rfl) Tryd.underlying61 rfl rfl (tpC_at (by omega))) rfl fun a hA => ?_
 obtain ⟨v_t45, hv_t45, hO_t45⟩ := Own.cut hO_o2 (0) (0) (by first | omega | (simp; omega) | (simp [*]; omega)) (by first | omega | (simp; omega) | (simp [*]; omega))
 refine sq hA (q_slice Tryd.underlying61 ti76 rfl (0) (0) hv_t45 (Own.shp hO_o2) rfl rfl (rfl) (by first | omega | rfl) (by first | omega | (simp; omega) | (simp [*]; omega)) (by first | omega | (simp; omega) | (simp [*]; omega))) rfl fun a hA => ?_
 refine sq hA (q_nilCheck rfl) rfl fun a hA => ?_
 refine sq hA (q_fldo (3 * i) (3 * i + 2) Tryd.underlying63 rfl rfl ti61 rfl) rfl fun a hA => ?_
 replace hH := hH.pick [1, 0, 2, 3] (Hs' := [_, _, _, _]) rfl
 refine s0 hA (lo_store1 hH ti61 rfl rfl (by rw [tpC_length]; omega) (Own.one hO_t45)) ?_
 clear hH; rintro _ w hH
 rw [tpC_set (by omega)] at hH
 refine wpList_nil ?_
 refine hK8 _ _ ?_
 clear hK8
 replace hA := hA.s1 4
 refine wp_seq_k fun K9 hK9 => ?_
 refine wp_region_lit ?_
 refine asg hA fun a hA => ?_
 refine wpList_nil ?_
 refine hK9 _ _ ?_
 clear hK9
 refine wp_ret ?_
 refine post_ret hA (res_1 rfl hA rfl) ?_
 replace hH := hH.pick [0, 3, 2, 1] (Hs' := [_, _, _, _]) rfl
 exact ⟨_, rfl, (upd (upd vs (3 * i) v_t33) (3 * i + 2) v_t45), N_t33, N_co, rfl, by (intro k h1 h2; rw [upd_ne _ _ h2, upd_ne _ _ h1]), by rw [upd_ne _ _ (show 3 * i ≠ 3 * i + 2 by omega), upd_at]; simpa using hO_t33, by rw [upd_at]; simpa [cellsS] using hO_t45, hH⟩

theorem read_ok {w0 : World} (b_t i : Nat) (hi : i < 4) (vs : Nat → Value) (f : Int) (hf9 : f ≤ 9223372036854775807) (now : Bs) (M_n : Hl) (hO_n : Ow B8 5 (vs (3 * i + 1)) now M_n) (hnl : now.length ≤ 1048576) (hH : HS (doms [[(b_t, Obj.cells (tpC vs f false).toArray 66 (0, 0))], M_n]) w0 w0 [[(b_t, Obj.cells (tpC vs f false).toArray 66 (0, 0))], M_n]) :
    Calls Tryd.prog 20 #[(.pointer (some ⟨b_t, 0, none⟩)), I i] w0 (Ret fun r w' => ∃ v' N', r = .tuple #[v', I 0] ∧ Ow B8 5 v' now N' ∧ HS (doms [[(b_t, Obj.cells (tpC vs f false).toArray 66 (0, 0))], M_n]) w0 w' [[(b_t, Obj.cells (tpC vs f false).toArray 66 (0, 0))], M_n, N']) := by
 refine start (n := 29) (E := [(0, _), (1, _)]) Tryd.func20 rfl rfl rfl (args_look rfl) ?_
 intro a hA
 refine wp_seq_k fun K1 hK1 => ?_
 refine wp_region_lit ?_
 refine asg hA fun a hA => ?_
 refine asg hA fun a hA => ?_
 refine wpList_nil ?_
 refine hK1 _ _ ?_
 clear hK1
 refine wp_seq_k fun K2 hK2 => ?_
 refine wp_region_lit ?_
 refine mv hA fun a hA => ?_
 refine mv hA fun a hA => ?_
 refine sl hA (lo_call fn36 rfl (at_any b_t i hi)) rfl ?_
 rintro _ w ⟨rfl, hC⟩ a hA
 replace hH := HS.call0 hH hC
 clear hC
 refine mv hA fun a hA => ?_
 refine sq hA (q_extract rfl rfl) rfl fun a hA => ?_
 refine sq hA (q_extract rfl rfl) rfl fun a hA => ?_
 refine asg hA fun a hA => ?_
 refine asg hA fun a hA => ?_
 refine wpList_nil ?_
 refine hK2 _ _ ?_
 clear hK2
 replace hA := hA.s5 7 6 5 4 0
 refine wp_seq_k fun K3 hK3 => ?_
 refine wp_block ?_
 refine wp_seq_k fun K4 hK4 => ?_
 refine wp_region_lit ?_
 refine mv hA fun a hA => ?_
 refine sq hA (q_neqI (n := 0) rfl rfl) rfl fun a hA => ?_
 refine asg hA fun a hA => ?_
 refine wpList_nil ?_
 refine hK4 _ _ ?_
 clear hK4
 replace hA := hA.s6 14 7 6 5 4 0
 refine cond_d hA rfl (fun hnn => absurd hnn ((fun h => h rfl))) (fun _ => ?_)
 refine wp_seq_k fun K5 hK5 => ?_
 refine wp_region_lit ?_
 refine mv hA fun a hA => ?_
 refine sq hA (q_nilCheck rfl) rfl fun a hA => ?_
 refine sq hA (q_fld 13 Tryd.underlying66 rfl rfl ti4 rfl) rfl fun a hA => ?_
 refine sq hA (q_loadB hH 0 rfl (List.mem_singleton.2 rfl) Tryd.underlying4 rfl rfl rfl) rfl fun a hA => ?_
 refine asg hA fun a hA => ?_
 refine wpList_nil ?_
 refine hK5 _ _ ?_
 clear hK5
 replace hA := hA.s4 18 6 5 4
 refine cond_f hA rfl ?_
 refine wp_skip ?_
 refine block_normal ?_
 refine hK3 _ _ ?_
 clear hK3
 replace hA := hA.s3 6 5 4
 refine wp_seq_k fun K6 hK6 => ?_
 refine wp_region_lit ?_
 refine sl hA (lo_bs (f := B8) (e := 5) ([]) hH rfl rfl (fun w => by kernel_rfl)) rfl ?_
 clear hH; rintro v_t23 w ⟨N_t23, hO_t23, hH⟩ a hA
 refine mv hA fun a hA => ?_
 refine sq hA (q_nilCheck rfl) rfl fun a hA => ?_
 refine sq hA (q_fldo (3 * i) (3 * i + 1) Tryd.underlying63 rfl rfl ti32 rfl) rfl fun a hA => ?_
 refine sq hA (q_loadB hH 1 rfl (List.mem_singleton.2 rfl) Tryd.underlying32 rfl rfl (tpC_at (by omega))) rfl fun a hA => ?_
 refine sl hA (lo_appm hH Tryd.underlying32 Tryd.underlying32 (.inl rfl) ti5 rfl rfl rfl hO_t23 (Rd.src (Own.rd0 hO_n hH 2 rfl)) (one_B8 _) (by first | omega | (simp; done) | (simp; omega)) (by first | omega | (simp; done) | (simp; omega))) rfl ?_
 clear hH; rintro v_t28 w ⟨N_t28, hO_t28, hH⟩ a hA
 refine asg hA fun a hA => ?_
 refine asg hA fun a hA => ?_
 refine wpList_nil ?_
 refine hK6 _ _ ?_
 clear hK6
 replace hA := hA.s2 5 4
 refine wp_ret ?_
 refine post_ret hA (res_2 rfl hA rfl rfl) ?_
 replace hH := hH.pick [1, 2, 0] (Hs' := [_, _, _]) rfl
 exact ⟨_, rfl, v_t28, N_t28, rfl, by simpa using hO_t28, hH⟩

theorem newt_any {w0 : World}  :
    Calls Tryd.prog 12 #[] w0 (Ret fun r w' => ∃ b_t, r = .pointer (some ⟨b_t, 0, none⟩) ∧ HS [] w0 w' [[(b_t, Obj.cells (tpC (fun _ => nilV) (-1) false).toArray 66 (0, 0))]]) := by
 have hH := HS.start w0
 refine start (n := 3) (E := []) Tryd.func12 rfl rfl rfl (args_look rfl) ?_
 intro a hA
 refine wp_seq_k fun K1 hK1 => ?_
 refine wp_region_lit ?_
 refine asg hA fun a hA => ?_
 refine wpList_nil ?_
 refine hK1 _ _ ?_
 clear hK1
 refine wp_seq_k fun K2 hK2 => ?_
 refine wp_region_lit ?_
 refine sq hA (q_buildC (css := [_]) (z := [(.slice none 0 0), (.slice none 0 0), (.slice none 0 0), (.slice none 0 0), (.slice none 0 0), (.slice none 0 0), (.slice none 0 0), (.slice none 0 0), (.slice none 0 0), (.slice none 0 0), (.slice none 0 0), (.slice none 0 0), (I 0), (.bool false)]) (BT.mk (pl := [(0, 12), (12, 1), (13, 1)]) (it := Tryd.t66) (by kernel_rfl) Tryd.underlying66 (by kernel_rfl) (by kernel_rfl)) rfl ⟨rfl, ⟨_, rfl, by first | rfl | (simp [Value.cells]; done) | (simp [Value.cells, *]; done), by decide⟩, trivial⟩) rfl fun a hA => ?_
 refine sl hA (lo_boxA hH rfl) rfl ?_
 clear hH; rintro _ w ⟨b_t2, rfl, hH⟩ a hA
 refine asg hA fun a hA => ?_
 refine wpList_nil ?_
 refine hK2 _ _ ?_
 clear hK2
 replace hA := hA.s1 0
 refine wp_ret ?_
 refine post_ret hA (res_1 rfl hA rfl) ?_
 exact ⟨_, rfl, b_t2, rfl, hH⟩

end Go.Proofs.YthhdilafnfcpbaaDoor
