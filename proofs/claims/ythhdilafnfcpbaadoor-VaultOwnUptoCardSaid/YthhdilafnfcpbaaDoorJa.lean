/- Layer 10 (tape): a tape's own functions. -/
import Derived.Test.YthhdilafnfcpbaaDoorGb
import Derived.Test.YthhdilafnfcpbaaDoorVz
import Derived.Test.YthhdilafnfcpbaaDoorMzc
namespace Go.Proofs.YthhdilafnfcpbaaDoor
open Go
set_option linter.unusedVariables false
set_option linter.unusedSimpArgs false
set_option maxRecDepth 100000

theorem at_any {w0 : World} (b_t i : Nat) (hi : i < 4) :
    Calls Tryd.prog 36 #[(.pointer (some ⟨b_t, 0, none⟩)), I i] w0 (Ret fun r w' => r = .tuple #[.pointer (some ⟨b_t, 3 * i, none⟩), I 0] ∧ HS [] w0 w' []) := by
 have hH := HS.start w0
 refine start (n := 21) (E := [(0, _), (1, _)]) Tryd.func36 rfl rfl rfl (args_look rfl) ?_
 intro a hA
 refine wp_seq_k fun K1 hK1 => ?_
 refine wp_region_lit ?_
 refine asg hA fun a hA => ?_
 refine asg hA fun a hA => ?_
 refine wpList_nil ?_
 refine hK1 _ _ ?_
 clear hK1
 refine wp_seq_k fun K2 hK2 => ?_
 refine wp_block ?_
 refine wp_seq_k fun K3 hK3 => ?_
 refine wp_region_lit ?_
 refine mv hA fun a hA => ?_
 refine sq hA (q_ptrNil Tryd.underlying25 rfl rfl) rfl fun a hA => ?_
 refine asg hA fun a hA => ?_
 refine wpList_nil ?_
 refine hK3 _ _ ?_
 clear hK3
 replace hA := hA.s5 6 5 4 0 1
 refine cond_f hA rfl ?_
 refine wp_seq_k fun K4 hK4 => ?_
 refine wp_region_lit ?_
 refine mv hA fun a hA => ?_
 refine sq hA (q_lssI (n := 0) rfl rfl) rfl fun a hA => ?_
 replace hA := hA.decF (by omega)
 refine mv hA fun a hA => ?_
 refine gq hA rfl rfl (q_move rfl) rfl fun a hA => ?_
 refine gq hA rfl rfl (q_geqI (n := 4) rfl rfl) rfl fun a hA => ?_
 replace hA := hA.decF (by omega)
 refine sq hA (q_pick_f rfl rfl) rfl fun a hA => ?_
 refine asg hA fun a hA => ?_
 refine wpList_nil ?_
 refine hK4 _ _ ?_
 clear hK4
 replace hA := hA.s5 9 5 4 0 1
 refine cond_f hA rfl ?_
 refine wp_skip ?_
 refine block_normal ?_
 refine hK2 _ _ ?_
 clear hK2
 replace hA := hA.s4 5 4 0 1
 refine wp_seq_k fun K5 hK5 => ?_
 refine wp_region_lit ?_
 refine mv hA fun a hA => ?_
 refine mv hA fun a hA => ?_
 refine sq hA (q_nilCheck rfl) rfl fun a hA => ?_
 refine sq hA (q_fld 0 Tryd.underlying66 rfl rfl ti64 rfl) rfl fun a hA => ?_
 refine sq hA (q_idxAk i Tryd.underlying64 ti63 rfl rfl rfl hi) rfl fun a hA => ?_
 refine asg hA fun a hA => ?_
 refine asg hA fun a hA => ?_
 refine wpList_nil ?_
 refine hK5 _ _ ?_
 clear hK5
 replace hA := hA.s2 5 4
 refine wp_ret ?_
 refine post_ret hA (res_2 rfl hA rfl rfl) ?_
 exact ⟨_, rfl, rfl, hH⟩

theorem take_no {w0 : World} (b_t : Nat) (vs : Nat → Value) (f : Int) (d : Bool) (hf : f = 0) (hH : HS [b_t] w0 w0 [[(b_t, Obj.cells (tpC vs f d).toArray 66 (0, 0))]]) :
    Calls Tryd.prog 37 #[(.pointer (some ⟨b_t, 0, none⟩))] w0 (Ret fun r w' => r = .bool false ∧ HS [b_t] w0 w' [[(b_t, Obj.cells (tpC vs f true).toArray 66 (0, 0))]]) := by
 refine start (n := 25) (E := [(0, _)]) Tryd.func37 rfl rfl rfl (args_look rfl) ?_
 intro a hA
 refine wp_seq_k fun K1 hK1 => ?_
 refine wp_region_lit ?_
 refine asg hA fun a hA => ?_
 refine wpList_nil ?_
 refine hK1 _ _ ?_
 clear hK1
 refine wp_seq_k fun K2 hK2 => ?_
 refine wp_block ?_
 refine wp_seq_k fun K3 hK3 => ?_
 refine wp_region_lit ?_
 refine mv hA fun a hA => ?_
 refine sq hA (q_nilCheck rfl) rfl fun a hA => ?_
 refine sq hA (q_fld 12 Tryd.underlying66 rfl rfl ti3 rfl) rfl fun a hA => ?_
 refine sq hA (q_loadB hH 0 rfl (List.mem_singleton.2 rfl) Tryd.underlying3 rfl rfl rfl) rfl fun a hA => ?_
 refine sq hA (Runs.bt (q_eqlI (n := 0) rfl rfl) (hf)) rfl fun a hA => ?_
 refine asg hA fun a hA => ?_
 refine wpList_nil ?_
 refine hK3 _ _ ?_
 clear hK3
 replace hA := hA.s3 3 2 0
 refine cond_t hA rfl ?_
 refine wp_seq_k fun K4 hK4 => ?_
 refine wp_region_lit ?_
 refine mv hA fun a hA => ?_
 refine sq hA (q_nilCheck rfl) rfl fun a hA => ?_
 refine sq hA (q_fld 13 Tryd.underlying66 rfl rfl ti4 rfl) rfl fun a hA => ?_
 refine s0 hA (lo_store1 hH ti4 rfl rfl ((by rw [tpC_length]; decide)) rfl) ?_
 clear hH; rintro _ w hH
 replace hH : HS _ _ _ ([(b_t, Obj.cells (tpC vs f true).toArray 66 (0, 0))] :: _) := hH
 refine wpList_nil ?_
 refine hK4 _ _ ?_
 clear hK4
 replace hA := hA.s1 2
 refine wp_seq_k fun K5 hK5 => ?_
 refine wp_region_lit ?_
 refine asg hA fun a hA => ?_
 refine wpList_nil ?_
 refine hK5 _ _ ?_
 clear hK5
 refine wp_ret ?_
 refine block_ret ?_
 refine then_ret ?_
 refine post_ret hA (res_1 rfl hA rfl) ?_
 exact ⟨_, rfl, rfl, hH⟩

theorem take_ok {w0 : World} (b_t : Nat) (vs : Nat → Value) (f : Int) (d : Bool) (hf9 : f ≤ 9223372036854775807) (hf : ¬ f = 0) (hH : HS [b_t] w0 w0 [[(b_t, Obj.cells (tpC vs f d).toArray 66 (0, 0))]]) :
    Calls Tryd.prog 37 #[(.pointer (some ⟨b_t, 0, none⟩))] w0 (Ret fun r w' => r = .bool true ∧ HS [b_t] w0 w' [[(b_t, Obj.cells (tpC vs (fz f 1) d).toArray 66 (0, 0))]]) := by
 refine start (n := 25) (E := [(0, _)]) Tryd.func37 rfl rfl rfl (args_look rfl) ?_
 intro a hA
 refine wp_seq_k fun K1 hK1 => ?_
 refine wp_region_lit ?_
 refine asg hA fun a hA => ?_
 refine wpList_nil ?_
 refine hK1 _ _ ?_
 clear hK1
 refine wp_seq_k fun K2 hK2 => ?_
 refine wp_block ?_
 refine wp_seq_k fun K3 hK3 => ?_
 refine wp_region_lit ?_
 refine mv hA fun a hA => ?_
 refine sq hA (q_nilCheck rfl) rfl fun a hA => ?_
 refine sq hA (q_fld 12 Tryd.underlying66 rfl rfl ti3 rfl) rfl fun a hA => ?_
 refine sq hA (q_loadB hH 0 rfl (List.mem_singleton.2 rfl) Tryd.underlying3 rfl rfl rfl) rfl fun a hA => ?_
 refine sq hA (Runs.bf (q_eqlI (n := 0) rfl rfl) (hf)) rfl fun a hA => ?_
 refine asg hA fun a hA => ?_
 refine wpList_nil ?_
 refine hK3 _ _ ?_
 clear hK3
 replace hA := hA.s3 3 2 0
 refine cond_f hA rfl ?_
 refine wp_seq_k fun K4 hK4 => ?_
 refine wp_region_lit ?_
 refine mv hA fun a hA => ?_
 refine sq hA (q_nilCheck rfl) rfl fun a hA => ?_
 refine sq hA (q_fld 12 Tryd.underlying66 rfl rfl ti3 rfl) rfl fun a hA => ?_
 refine sq hA (q_loadB hH 0 rfl (List.mem_singleton.2 rfl) Tryd.underlying3 rfl rfl rfl) rfl fun a hA => ?_
 refine sq hA (q_gtrI (n := 0) rfl rfl) rfl fun a hA => ?_
 refine asg hA fun a hA => ?_
 refine wpList_nil ?_
 refine hK4 _ _ ?_
 clear hK4
 replace hA := hA.s3 12 2 0
 refine cond_d hA rfl (fun hc12 => ?_) (fun hc12 => ?_)
 ·skip
  refine wp_region_lit ?_
  refine mv hA fun a hA => ?_
  refine sq hA (q_nilCheck rfl) rfl fun a hA => ?_
  refine sq hA (q_fld 12 Tryd.underlying66 rfl rfl ti3 rfl) rfl fun a hA => ?_
  refine sq hA (q_loadB hH 0 rfl (List.mem_singleton.2 rfl) Tryd.underlying3 rfl rfl rfl) rfl fun a hA => ?_
  refine sq hA (q_subI (n := 1) rfl rfl (by omega)) rfl fun a hA => ?_
  refine sq hA (q_nilCheck rfl) rfl fun a hA => ?_
  refine sq hA (q_fld 12 Tryd.underlying66 rfl rfl ti3 rfl) rfl fun a hA => ?_
  refine s0 hA (lo_store1 hH ti3 rfl rfl ((by rw [tpC_length]; decide)) rfl) ?_
  clear hH; rintro _ w hH
  replace hH : HS _ _ _ ([(b_t, Obj.cells (tpC vs (f - 1) d).toArray 66 (0, 0))] :: _) := hH
  refine wpList_nil ?_
  refine block_normal ?_
  refine hK2 _ _ ?_
  clear hK2
  replace hA := hA.s1 2
  refine wp_seq_k fun K5 hK5 => ?_
  refine wp_region_lit ?_
  refine asg hA fun a hA => ?_
  refine wpList_nil ?_
  refine hK5 _ _ ?_
  clear hK5
  refine wp_ret ?_
  refine post_ret hA (res_1 rfl hA rfl) ?_
  first | exact ⟨_, rfl, rfl, by rw [fz1_pos (by omega)]; exact hH⟩ | exact ⟨_, rfl, rfl, by rw [fz1_neg (by omega)]; exact hH⟩
 ·skip
  refine wp_skip ?_
  refine block_normal ?_
  refine hK2 _ _ ?_
  clear hK2
  replace hA := hA.s1 2
  refine wp_seq_k fun K6 hK6 => ?_
  refine wp_region_lit ?_
  refine asg hA fun a hA => ?_
  refine wpList_nil ?_
  refine hK6 _ _ ?_
  clear hK6
  refine wp_ret ?_
  refine post_ret hA (res_1 rfl hA rfl) ?_
  first | exact ⟨_, rfl, rfl, by rw [fz1_pos (by omega)]; exact hH⟩ | exact ⟨_, rfl, rfl, by rw [fz1_neg (by omega)]; exact hH⟩

theorem app_down {w0 : World} (b_t i : Nat) (hi : i < 4) (vs : Nat → Value) (f : Int) (hf9 : f ≤ 9223372036854775807) (u : Value) (hH : HS [b_t] w0 w0 [[(b_t, Obj.cells (tpC vs f true).toArray 66 (0, 0))]]) :
    Calls Tryd.prog 17 #[(.pointer (some ⟨b_t, 0, none⟩)), I i, u] w0 (Ret fun r w' => r = I 100 ∧ HS [b_t] w0 w' [[(b_t, Obj.cells (tpC vs f true).toArray 66 (0, 0))]]) := by
 refine start (n := 68) (E := [(0, _), (1, _), (2, _)]) Tryd.func17 rfl rfl rfl (args_look rfl) ?_
 intro a hA
 refine wp_seq_k fun K1 hK1 => ?_
 refine wp_region_lit ?_
 refine asg hA fun a hA => ?_
 refine wpList_nil ?_
 refine hK1 _ _ ?_
 clear hK1
 refine wp_seq_k fun K2 hK2 => ?_
 refine wp_region_lit ?_
 refine mv hA fun a hA => ?_
 refine mv hA fun a hA => ?_
 refine sl hA (lo_call fn36 rfl (at_any b_t i hi)) rfl ?_
 rintro _ w ⟨rfl, hC⟩ a hA
 replace hH := HS.call0 hH hC
 clear hC
 refine mv hA fun a hA => ?_
 refine sq hA (q_extract rfl rfl) rfl fun a hA => ?_
 refine sq hA (q_extract rfl rfl) rfl fun a hA => ?_
 refine asg hA fun a hA => ?_
 refine asg hA fun a hA => ?_
 refine wpList_nil ?_
 refine hK2 _ _ ?_
 clear hK2
 replace hA := hA.s5 8 7 6 0 2
 refine wp_seq_k fun K3 hK3 => ?_
 refine wp_block ?_
 refine wp_seq_k fun K4 hK4 => ?_
 refine wp_region_lit ?_
 refine mv hA fun a hA => ?_
 refine sq hA (q_neqI (n := 0) rfl rfl) rfl fun a hA => ?_
 refine asg hA fun a hA => ?_
 refine wpList_nil ?_
 refine hK4 _ _ ?_
 clear hK4
 replace hA := hA.s6 17 8 7 6 0 2
 refine cond_d hA rfl (fun hnn => absurd hnn ((fun h => h rfl))) (fun _ => ?_)
 refine wp_seq_k fun K5 hK5 => ?_
 refine wp_region_lit ?_
 refine mv hA fun a hA => ?_
 refine sq hA (q_nilCheck rfl) rfl fun a hA => ?_
 refine sq hA (q_fld 13 Tryd.underlying66 rfl rfl ti4 rfl) rfl fun a hA => ?_
 refine sq hA (q_loadB hH 0 rfl (List.mem_singleton.2 rfl) Tryd.underlying4 rfl rfl rfl) rfl fun a hA => ?_
 refine asg hA fun a hA => ?_
 refine wpList_nil ?_
 refine hK5 _ _ ?_
 clear hK5
 replace hA := hA.s5 21 7 6 0 2
 refine cond_t hA rfl ?_
 refine wp_seq_k fun K6 hK6 => ?_
 refine wp_region_lit ?_
 refine asg hA fun a hA => ?_
 refine wpList_nil ?_
 refine hK6 _ _ ?_
 clear hK6
 replace hA := hA.s4 6 7 0 2
 refine wp_ret ?_
 refine block_ret ?_
 refine then_ret ?_
 refine post_ret hA (res_1 rfl hA rfl) ?_
 exact ⟨_, rfl, rfl, hH⟩

theorem app_full {w0 : World} (b_t i : Nat) (hi : i < 4) (vs : Nat → Value) (f : Int) (hf9 : f ≤ 9223372036854775807) (v : Value) (l : Bs) (now : Bs) (N_n : Hl) (hO_n : Ow B8 5 (vs (3 * i + 1)) now N_n) (hfull : 1048576 < now.length + l.length) (hl : l.length ≤ 1048576) (hr : By (doms [[(b_t, Obj.cells (tpC vs f false).toArray 66 (0, 0))], N_n]) w0 v l) (hH : HS (doms [[(b_t, Obj.cells (tpC vs f false).toArray 66 (0, 0))], N_n]) w0 w0 [[(b_t, Obj.cells (tpC vs f false).toArray 66 (0, 0))], N_n]) :
    Calls Tryd.prog 17 #[(.pointer (some ⟨b_t, 0, none⟩)), I i, v] w0 (Ret fun r w' => r = I 90 ∧ HS (doms [[(b_t, Obj.cells (tpC vs f false).toArray 66 (0, 0))], N_n]) w0 w' [[(b_t, Obj.cells (tpC vs f false).toArray 66 (0, 0))], N_n]) := by
 refine start (n := 68) (E := [(0, _), (1, _), (2, _)]) Tryd.func17 rfl rfl rfl (args_look rfl) ?_
 intro a hA
 refine wp_seq_k fun K1 hK1 => ?_
 refine wp_region_lit ?_
 refine asg hA fun a hA => ?_
 refine wpList_nil ?_
 refine hK1 _ _ ?_
 clear hK1
 refine wp_seq_k fun K2 hK2 => ?_
 refine wp_region_lit ?_
 refine mv hA fun a hA => ?_
 refine mv hA fun a hA => ?_
 refine sl hA (lo_call fn36 rfl (at_any b_t i hi)) rfl ?_
 rintro _ w ⟨rfl, hC⟩ a hA
 replace hH := HS.call0 hH hC
 clear hC
 refine mv hA fun a hA => ?_
 refine sq hA (q_extract rfl rfl) rfl fun a hA => ?_
 refine sq hA (q_extract rfl rfl) rfl fun a hA => ?_
 refine asg hA fun a hA => ?_
 refine asg hA fun a hA => ?_
 refine wpList_nil ?_
 refine hK2 _ _ ?_
 clear hK2
 replace hA := hA.s5 8 7 6 0 2
 refine wp_seq_k fun K3 hK3 => ?_
 refine wp_block ?_
 refine wp_seq_k fun K4 hK4 => ?_
 refine wp_region_lit ?_
 refine mv hA fun a hA => ?_
 refine sq hA (q_neqI (n := 0) rfl rfl) rfl fun a hA => ?_
 refine asg hA fun a hA => ?_
 refine wpList_nil ?_
 refine hK4 _ _ ?_
 clear hK4
 replace hA := hA.s6 17 8 7 6 0 2
 refine cond_d hA rfl (fun hnn => absurd hnn ((fun h => h rfl))) (fun _ => ?_)
 refine wp_seq_k fun K5 hK5 => ?_
 refine wp_region_lit ?_
 refine mv hA fun a hA => ?_
 refine sq hA (q_nilCheck rfl) rfl fun a hA => ?_
 refine sq hA (q_fld 13 Tryd.underlying66 rfl rfl ti4 rfl) rfl fun a hA => ?_
 refine sq hA (q_loadB hH 0 rfl (List.mem_singleton.2 rfl) Tryd.underlying4 rfl rfl rfl) rfl fun a hA => ?_
 refine asg hA fun a hA => ?_
 refine wpList_nil ?_
 refine hK5 _ _ ?_
 clear hK5
 replace hA := hA.s5 21 7 6 0 2
 refine cond_f hA rfl ?_
 refine wp_seq_k fun K6 hK6 => ?_
 refine wp_region_lit ?_
 refine mv hA fun a hA => ?_
 refine sq hA (q_nilCheck rfl) rfl fun a hA => ?_
 refine sq hA (q_fldo (3 * i) (3 * i + 1) Tryd.underlying63 rfl rfl ti32 rfl) rfl fun a hA => ?_
 refine sq hA (q_loadB hH 0 rfl (List.mem_singleton.2 rfl) Tryd.underlying32 rfl rfl (tpC_at (by omega))) rfl fun a hA => ?_
 refine sq hA (q_len Tryd.underlying32 rfl (Own.shp hO_n)) rfl fun a hA => ?_
 refine mv hA fun a hA => ?_
 refine sq hA (q_len Tryd.underlying32 rfl (Rd.shp hr)) rfl fun a hA => ?_
 refine sq hA (q_subI (m := 1048576) rfl rfl (by omega)) rfl fun a hA => ?_
 refine sq hA (q_gtrI rfl rfl) rfl fun a hA => ?_
 refine asg hA fun a hA => ?_
 refine wpList_nil ?_
 refine hK6 _ _ ?_
 clear hK6
 replace hA := hA.s5 26 7 6 0 2
 refine cond_d hA rfl (fun _ => ?_) (fun hnn => absurd (by omega) hnn)
 refine wp_seq_k fun K7 hK7 => ?_
 refine wp_region_lit ?_
 refine asg hA fun a hA => ?_
 refine wpList_nil ?_
 refine hK7 _ _ ?_
 clear hK7
 replace hA := hA.s4 6 7 0 2
 refine wp_ret ?_
 refine block_ret ?_
 refine then_ret ?_
 refine post_ret hA (res_1 rfl hA rfl) ?_
 exact ⟨_, rfl, rfl, hH⟩

set_option maxHeartbeats 1000000 in
theorem app_ok {w0 : World} (b_t i : Nat) (hi : i < 4) (vs : Nat → Value) (f : Int) (hf9 : f ≤ 9223372036854775807) (v : Value) (l : Bs) (now : Bs) (op : List (Bool × Nat)) (M_n M_o : Hl) (hO_n : Ow B8 5 (vs (3 * i + 1)) now M_n) (hO_o : Own 76 2 (vs (3 * i + 2)) (op).length (cellsS (op)) M_o) (hfit : now.length + l.length ≤ 1048576) (hop : op.length ≤ 2097152) (hr : By (doms [[(b_t, Obj.cells (tpC vs f false).toArray 66 (0, 0))], M_n, M_o]) w0 v l) (hH : HS (doms [[(b_t, Obj.cells (tpC vs f false).toArray 66 (0, 0))], M_n, M_o]) w0 w0 [[(b_t, Obj.cells (tpC vs f false).toArray 66 (0, 0))], M_n, M_o]) :
    Calls Tryd.prog 17 #[(.pointer (some ⟨b_t, 0, none⟩)), I i, v] w0 (Ret fun r w' => ∃ vx N_n' N_o', r = I (if (appK f l.length) < l.length then 100 else 0) ∧ (∀ k, k ≠ 3 * i + 1 → k ≠ 3 * i + 2 → vx k = vs k) ∧ Ow B8 5 (vx (3 * i + 1)) (now ++ l.take (appK f l.length)) N_n' ∧ Own 76 2 (vx (3 * i + 2)) (op ++ stp (l.take (appK f l.length))).length (cellsS (op ++ stp (l.take (appK f l.length)))) N_o' ∧ HS (doms [[(b_t, Obj.cells (tpC vs f false).toArray 66 (0, 0))], M_n, M_o]) w0 w' [[(b_t, Obj.cells (tpC vx (fz f (appK f l.length)) (decide ((appK f l.length) < l.length))).toArray 66 (0, 0))], N_n', N_o']) := by
 refine start (n := 68) (E := [(0, _), (1, _), (2, _)]) Tryd.func17 rfl rfl rfl (args_look rfl) ?_
 intro a hA
 refine wp_seq_k fun K1 hK1 => ?_
 refine wp_region_lit ?_
 refine asg hA fun a hA => ?_
 refine wpList_nil ?_
 refine hK1 _ _ ?_
 clear hK1
 refine wp_seq_k fun K2 hK2 => ?_
 refine wp_region_lit ?_
 refine mv hA fun a hA => ?_
 refine mv hA fun a hA => ?_
 refine sl hA (lo_call fn36 rfl (at_any b_t i hi)) rfl ?_
 rintro _ w ⟨rfl, hC⟩ a hA
 replace hH := HS.call0 hH hC
 clear hC
 refine mv hA fun a hA => ?_
 refine sq hA (q_extract rfl rfl) rfl fun a hA => ?_
 refine sq hA (q_extract rfl rfl) rfl fun a hA => ?_
 refine asg hA fun a hA => ?_
 refine asg hA fun a hA => ?_
 refine wpList_nil ?_
 refine hK2 _ _ ?_
 clear hK2
 replace hA := hA.s5 8 7 6 0 2
 refine wp_seq_k fun K3 hK3 => ?_
 refine wp_block ?_
 refine wp_seq_k fun K4 hK4 => ?_
 refine wp_region_lit ?_
 refine mv hA fun a hA => ?_
 refine sq hA (q_neqI (n := 0) rfl rfl) rfl fun a hA => ?_
 refine asg hA fun a hA => ?_
 refine wpList_nil ?_
 refine hK4 _ _ ?_
 clear hK4
 replace hA := hA.s6 17 8 7 6 0 2
 refine cond_d hA rfl (fun hnn => absurd hnn ((fun h => h rfl))) (fun _ => ?_)
 refine wp_seq_k fun K5 hK5 => ?_
 refine wp_region_lit ?_
 refine mv hA fun a hA => ?_
 refine sq hA (q_nilCheck rfl) rfl fun a hA => ?_
 refine sq hA (q_fld 13 Tryd.underlying66 rfl rfl ti4 rfl) rfl fun a hA => ?_
 refine sq hA (q_loadB hH 0 rfl (List.mem_singleton.2 rfl) Tryd.underlying4 rfl rfl rfl) rfl fun a hA => ?_
 refine asg hA fun a hA => ?_
 refine wpList_nil ?_
 refine hK5 _ _ ?_
 clear hK5
 replace hA := hA.s5 21 7 6 0 2
 refine cond_f hA rfl ?_
 refine wp_seq_k fun K6 hK6 => ?_
 refine wp_region_lit ?_
 refine mv hA fun a hA => ?_
 refine sq hA (q_nilCheck rfl) rfl fun a hA => ?_
 refine sq hA (q_fldo (3 * i) (3 * i + 1) Tryd.underlying63 rfl rfl ti32 rfl) rfl fun a hA => ?_
 refine sq hA (q_loadB hH 0 rfl (List.mem_singleton.2 rfl) Tryd.underlying32 rfl rfl (tpC_at (by omega))) rfl fun a hA => ?_
 refine sq hA (q_len Tryd.underlying32 rfl (Own.shp hO_n)) rfl fun a hA => ?_
 refine mv hA fun a hA => ?_
 refine sq hA (q_len Tryd.underlying32 rfl (Rd.shp hr)) rfl fun a hA => ?_
 refine sq hA (q_subI (m := 1048576) rfl rfl (by omega)) rfl fun a hA => ?_
 refine sq hA (q_gtrI rfl rfl) rfl fun a hA => ?_
 refine asg hA fun a hA => ?_
 refine wpList_nil ?_
 refine hK6 _ _ ?_
 clear hK6
 replace hA := hA.s5 26 7 6 0 2
 refine cond_d hA rfl (fun hnn => absurd hnn (by omega)) (fun _ => ?_)
 refine wp_skip ?_
 refine block_normal ?_
 refine hK3 _ _ ?_
 clear hK3
 replace hA := hA.s4 7 6 0 2
 refine wp_seq_k fun K7 hK7 => ?_
 refine wp_seq_k fun K8 hK8 => ?_
 refine wp_region_lit ?_
 refine mv hA fun a hA => ?_
 refine sq hA (q_len Tryd.underlying32 rfl (Rd.shp hr)) rfl fun a hA => ?_
 refine mv hA fun a hA => ?_
 refine wpList_nil ?_
 refine hK8 _ _ ?_
 clear hK8
 replace hA := hA.s6 38 37 36 7 6 0
 refine wp_block ?_
 refine wp_loop_ghost (fun gm a w => ∃ j : Nat, ∃ vx : Nat → Value, ∃ N_n : Hl, ∃ N_o : Hl, At 68 [(38, I j), (37, I (l.length : Int)), (36, v), (7, (.pointer (some ⟨b_t, 3 * i, none⟩))), (6, (I 0)), (0, (.pointer (some ⟨b_t, 0, none⟩)))] a ∧ HS (doms [[(b_t, Obj.cells (tpC vs f false).toArray 66 (0, 0))], M_n, M_o]) w0 w ([[(b_t, Obj.cells (tpC vx (fz f j) false).toArray 66 (0, 0))], N_n, N_o]) ∧ (j ≤ l.length) ∧ (f < 0 ∨ 0 ≤ f ∧ (j : Int) ≤ f) ∧ ((∀ k, k ≠ 3 * i + 1 → k ≠ 3 * i + 2 → vx k = vs k)) ∧ (Ow B8 5 (vx (3 * i + 1)) (now ++ l.take j) N_n) ∧ (Own 76 2 (vx (3 * i + 2)) (op ++ stp (l.take j)).length (cellsS (op ++ stp (l.take j))) N_o) ∧ gm = l.length - j) (l.length - (0)) ⟨0, vs, M_n, M_o, hA.sub ⟨rfl, rfl, rfl, rfl, rfl, rfl, trivial⟩, (by rw [fz_0]; exact hH), by omega, by omega, by exact fun _ _ _ => rfl, by simpa using hO_n, by simpa [stp] using hO_o, rfl⟩ ?_
 clear hA hH
 rintro gm a w ⟨j, vx, N_n, N_o, hA, hH, hj, hfk, hvx, hO_n, hO_o, rfl⟩
 have hfk : f < 0 ∨ (j : Int) ≤ f := by omega
 refine wp_seq_k fun K9 hK9 => ?_
 refine wp_region_lit ?_
 refine sq hA (q_lssI rfl rfl) rfl fun a hA => ?_
 refine wpList_nil ?_
 refine hK9 _ _ ?_
 clear hK9
 refine wp_seq_k fun K10 hK10 => ?_
 refine cond_d hA rfl (fun hc39 => ?_) (fun hc39 => ?_)
 ·skip
  refine wp_skip ?_
  refine hK10 _ _ ?_
  clear hK10
  refine wp_seq_k fun K11 hK11 => ?_
  refine wp_block ?_
  refine wp_seq_k fun K12 hK12 => ?_
  refine wp_region_lit ?_
  refine sq hA (q_idx1 (j) Tryd.underlying32 ti5 rfl rfl (by first | omega | rfl) (Rd.shp hr) (by first | omega | (simp; done) | (simp; omega) | (rw [List.length_map]; assumption) | assumption | rfl | (simp [*]; done) | (simp [*]; omega))) rfl fun a hA => ?_
  refine sq hA (q_loadRm (0#8) Tryd.underlying5 rfl rfl (hH.rd hr) (by first | omega | (simp; done) | (simp; omega) | (rw [List.length_map]; assumption) | assumption | rfl | (simp [*]; done) | (simp [*]; omega))) rfl fun a hA => ?_
  refine asg hA fun a hA => ?_
  refine wpList_nil ?_
  refine hK12 _ _ ?_
  clear hK12
  refine wp_seq_k fun K13 hK13 => ?_
  refine wp_seq_k fun K14 hK14 => ?_
  refine wp_region_lit ?_
  refine mv hA fun a hA => ?_
  rcases Classical.em (fz f j = 0) with hz | hz
  ·skip
   refine sl hA (lo_call fn37 rfl (take_no b_t vx (fz f j) false hz (HS.handed (Ns1 := [_]) hH))) rfl ?_
   rintro _ w ⟨rfl, hC⟩ a hA
   replace hH := HS.call (Ns1 := [_]) hH hC
   clear hC
   refine sq hA (q_not rfl) rfl fun a hA => ?_
   refine wpList_nil ?_
   refine hK14 _ _ ?_
   clear hK14
   refine cond_t hA rfl ?_
   refine wp_seq_k fun K15 hK15 => ?_
   refine wp_region_lit ?_
   refine asg hA fun a hA => ?_
   refine wpList_nil ?_
   refine hK15 _ _ ?_
   clear hK15
   refine wp_ret ?_
   refine then_ret ?_
   refine block_ret ?_
   refine then_ret ?_
   refine then_ret ?_
   refine block_ret ?_
   refine then_ret ?_
   refine post_ret hA (res_1 rfl hA rfl) ?_
   have hak := appK_stop hfk hz (n := l.length) (by omega)
   rw [hak, if_pos (show j < l.length by omega), decide_eq_true (show j < l.length by omega)]
   exact ⟨_, rfl, vx, N_n, N_o, rfl, hvx, hO_n, hO_o, hH⟩
  ·skip
   refine sl hA (lo_call fn37 rfl (take_ok b_t vx (fz f j) false (by first | assumption | exact fz_lt hf9) hz (HS.handed (Ns1 := [_]) hH))) rfl ?_
   rintro _ w ⟨rfl, hC⟩ a hA
   replace hH := HS.call (Ns1 := [_]) hH hC
   clear hC
   try rw [(fz_fz hfk hz).1] at hH
   refine sq hA (q_not rfl) rfl fun a hA => ?_
   refine wpList_nil ?_
   refine hK14 _ _ ?_
   clear hK14
   refine cond_f hA rfl ?_
   refine wp_skip ?_
   refine hK13 _ _ ?_
   clear hK13
   refine wp_seq_k fun K16 hK16 => ?_
   refine wp_region_lit ?_
   refine mv hA fun a hA => ?_
   refine mv hA fun a hA => ?_
   refine sq hA (q_nilCheck rfl) rfl fun a hA => ?_
   refine sq hA (q_fldo (3 * i) (3 * i + 1) Tryd.underlying63 rfl rfl ti32 rfl) rfl fun a hA => ?_
   refine sq hA (q_loadB hH 0 rfl (List.mem_singleton.2 rfl) Tryd.underlying32 rfl rfl (tpC_at (by omega))) rfl fun a hA => ?_
   refine mv hA fun a hA => ?_
   refine sl hA (lo_bs (f := B8) (e := 5) ([l.getD j 0#8]) hH rfl rfl (fun w => by kernel_rfl)) rfl ?_
   clear hH; rintro v_t51 w ⟨N_t51, hO_t51, hH⟩ a hA
   replace hH := hH.pick [2, 0, 1, 3] (Hs' := [_, _, _, _]) rfl
   refine sl hA (lo_appm hH Tryd.underlying32 Tryd.underlying32 (.inl rfl) ti5 rfl rfl rfl hO_n (Rd.src (Own.rd0 hO_t51 hH 1 rfl)) (one_B8 _) (by first | omega | (simp; done) | (simp; omega)) (by first | omega | (simp; done) | (simp; omega))) rfl ?_
   clear hH; rintro v_t52 w ⟨N_t52, hO_t52, hH⟩ a hA
   refine sq hA (q_nilCheck rfl) rfl fun a hA => ?_
   refine sq hA (q_fldo (3 * i) (3 * i + 1) Tryd.underlying63 rfl rfl ti32 rfl) rfl fun a hA => ?_
   replace hH := hH.pick [2, 0, 1, 3] (Hs' := [_, _, _, _]) rfl
   refine s0 hA (lo_store1 hH ti32 rfl rfl (by rw [tpC_length]; omega) (Own.one hO_t52)) ?_
   clear hH; rintro _ w hH
   rw [tpC_set (by omega)] at hH
   have hO_o2 : Own 76 2 (upd vx (3 * i + 1) v_t52 (3 * i + 2)) (op ++ stp (l.take j)).length (cellsS (op ++ stp (l.take j))) N_o := by rw [upd_ne _ _ (by omega)]; exact hO_o
   refine wpList_nil ?_
   refine hK16 _ _ ?_
   clear hK16
   refine wp_region_lit ?_
   refine mv hA fun a hA => ?_
   refine mv hA fun a hA => ?_
   refine sq hA (q_nilCheck rfl) rfl fun a hA => ?_
   refine sq hA (q_fldo (3 * i) (3 * i + 2) Tryd.underlying63 rfl rfl ti61 rfl) rfl fun a hA => ?_
   refine sq hA (q_loadB hH 0 rfl (List.mem_singleton.2 rfl) Tryd.underlying61 rfl rfl (tpC_at (by omega))) rfl fun a hA => ?_
   refine mv hA fun a hA => ?_
   refine sq hA (q_cv8_I Tryd.underlying5 Tryd.underlying3 rfl (Nat.le_trans (Nat.le_of_lt (BitVec.isLt _)) (by decide))) rfl fun a hA => ?_
   refine sq hA (q_buildC (css := [_]) (z := [(.bool false), (I 0)]) (BT.mk (pl := [(0, 1), (1, 1)]) (it := Tryd.t76) (by kernel_rfl) Tryd.underlying76 (by kernel_rfl) (by kernel_rfl)) rfl ⟨rfl, ⟨_, rfl, by first | rfl | (simp [Value.cells]; done) | (simp [Value.cells, *]; done), by decide⟩, trivial⟩) rfl fun a hA => ?_
   refine sl hA (lo_buildS (cs := [Value.bool false, I ((l.getD j 0#8).toNat : Int)]) hH Tryd.underlying61 ti76 rfl rfl (by decide) (by decide)) rfl ?_
   clear hH; rintro v_t63 w ⟨N_t63, hO_t63, hH⟩ a hA
   replace hH := hH.pick [4, 0, 1, 2, 3] (Hs' := [_, _, _, _, _]) rfl
   refine sl hA (lo_append hH Tryd.underlying61 Tryd.underlying61 (.inl rfl) ti76 rfl rfl rfl hO_o2 (Rd.src (Own.rd0 hO_t63 hH 1 rfl)) (ones_cons rfl (ones_cons rfl ones_nil)) (by first | (rw [List.length_append, stp_length, List.length_take]; omega) | omega) (by first | (rw [List.length_append, stp_length, List.length_take]; omega) | omega)) rfl ?_
   clear hH; rintro v_t64 w ⟨N_t64, hO_t64, hH⟩ a hA
   refine sq hA (q_nilCheck rfl) rfl fun a hA => ?_
   refine sq hA (q_fldo (3 * i) (3 * i + 2) Tryd.underlying63 rfl rfl ti61 rfl) rfl fun a hA => ?_
   replace hH := hH.pick [2, 0, 1, 3, 4] (Hs' := [_, _, _, _, _]) rfl
   refine s0 hA (lo_store1 hH ti61 rfl rfl (by rw [tpC_length]; omega) (Own.one hO_t64)) ?_
   clear hH; rintro _ w hH
   rw [tpC_set (by omega)] at hH
   refine wpList_nil ?_
   refine block_normal ?_
   refine hK11 _ _ ?_
   clear hK11
   refine wp_region_lit ?_
   refine sq hA (q_addI (n := 1) rfl rfl (by omega)) rfl fun a hA => ?_
   refine mv hA fun a hA => ?_
   refine wpList_nil ?_
   replace hH := hH.pick [0, 3, 1, 2, 4] (Hs' := [_, _, _, _, _]) rfl
   replace hH := hH.pick [0, 1, 2] (Hs' := [_, _, _]) rfl
   exact ⟨_, by omega, j + 1, (upd (upd vx (3 * i + 1) v_t52) (3 * i + 2) v_t64), N_t52, N_t64, hA.sub ⟨rfl, rfl, rfl, rfl, rfl, rfl, trivial⟩, hH, by omega, by (have q := (fz_fz hfk hz).2; omega), by (intro k h1 h2; rw [upd_ne _ _ h2, upd_ne _ _ h1]; exact hvx k h1 h2), by (rw [upd_ne _ _ (show 3 * i + 1 ≠ 3 * i + 2 by omega), upd_at, take_succ' (by omega), ← List.append_assoc]; exact hO_t52), by (rw [upd_at, stp_succ (by omega), ← List.append_assoc, cellsS_snoc, List.length_append]; exact hO_t64), rfl⟩
 ·skip
  refine wp_exit ?_
  refine then_exit ?_
  refine then_exit ?_
  refine exit_here ?_
  refine hK7 _ _ ?_
  clear hK7
  replace hA := hA.s1 6
  refine wp_seq_k fun K17 hK17 => ?_
  refine wp_region_lit ?_
  refine asg hA fun a hA => ?_
  refine wpList_nil ?_
  refine hK17 _ _ ?_
  clear hK17
  refine wp_ret ?_
  refine post_ret hA (res_1 rfl hA rfl) ?_
  obtain rfl : j = l.length := by omega
  have hak := appK_all hfk
  rw [hak, if_neg (Nat.lt_irrefl _), decide_eq_false (Nat.lt_irrefl _)]
  exact ⟨_, rfl, vx, N_n, N_o, rfl, hvx, hO_n, hO_o, hH⟩

end Go.Proofs.YthhdilafnfcpbaaDoor
