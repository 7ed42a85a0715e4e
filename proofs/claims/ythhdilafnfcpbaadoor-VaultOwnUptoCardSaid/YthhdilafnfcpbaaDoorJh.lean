/- Layer 12 (vault): a record is added, a snapshot saved. -/
import Derived.Test.YthhdilafnfcpbaaDoorJg
namespace Go.Proofs.YthhdilafnfcpbaaDoor
open Go
set_option linter.unusedVariables false
set_option linter.unusedSimpArgs false
set_option maxRecDepth 100000

theorem add_down {w0 : World} (b_v b_t g : Nat) (x rr : Value) (u : Value) (hu1 : u.oneCell' = true) (hH : HS [b_v] w0 w0 [[(b_v, Obj.cells (vC b_t g x rr true).toArray 68 (0, 0))]]) :
    Calls Tryd.prog 22 #[(.pointer (some ⟨b_v, 0, none⟩)), u] w0 (Ret fun r w' => r = I 100 ∧ HS [b_v] w0 w' [[(b_v, Obj.cells (vC b_t g x rr true).toArray 68 (0, 0))]]) := by
 refine start (n := 35) (E := [(0, _), (1, _)]) Tryd.func22 rfl rfl rfl (args_look rfl) ?_
 intro a hA
 refine wp_seq_k fun K1 hK1 => ?_
 refine wp_region_lit ?_
 refine sl hA (lo_box1 hH rfl rfl) rfl ?_
 clear hH; rintro _ w ⟨b_t2, rfl, hH⟩ a hA
 refine sl hA (lo_box1 hH rfl hu1) rfl ?_
 clear hH; rintro _ w ⟨b_t3, rfl, hH⟩ a hA
 refine asg hA fun a hA => ?_
 refine wpList_nil ?_
 refine hK1 _ _ ?_
 clear hK1
 replace hA := hA.s3 4 3 2
 refine wp_seq_k fun K2 hK2 => ?_
 refine wp_seq_k fun K3 hK3 => ?_
 refine wp_region_lit ?_
 refine sq hA (q_loadB hH 1 rfl (List.mem_singleton.2 rfl) Tryd.underlying27 rfl rfl rfl) rfl fun a hA => ?_
 replace hH := hH.pick [2, 0, 1] (Hs' := [_, _, _]) rfl
 refine sl hA (lo_call fn42 rfl (off_t b_v b_t _ _ _ (HS.handed (Ns1 := [_]) hH))) rfl ?_
 rintro _ w ⟨rfl, hC⟩ a hA
 replace hH := HS.call (Ns1 := [_]) hH hC
 clear hC
 refine asg hA fun a hA => ?_
 refine wpList_nil ?_
 refine hK3 _ _ ?_
 clear hK3
 replace hA := hA.s4 5 4 3 2
 refine wp_seq_k fun K4 hK4 => ?_
 refine wp_region_lit ?_
 refine mv hA fun a hA => ?_
 refine sq hA (q_neqI (n := 0) rfl rfl) rfl fun a hA => ?_
 refine wpList_nil ?_
 refine hK4 _ _ ?_
 clear hK4
 replace hA := hA.s5 10 5 4 3 2
 refine cond_d hA rfl (fun _ => ?_) (fun hnn => absurd ((by decide)) hnn)
 refine wp_seq_k fun K5 hK5 => ?_
 refine wp_region_lit ?_
 refine mv hA fun a hA => ?_
 refine asg hA fun a hA => ?_
 refine wpList_nil ?_
 refine hK5 _ _ ?_
 clear hK5
 replace hA := hA.s3 4 3 2
 refine wp_ret ?_
 refine then_ret ?_
 refine post_ret hA (res_1 rfl hA rfl) ?_
 replace hH := hH.pick [0] (Hs' := [_]) rfl
 exact ⟨_, rfl, rfl, hH⟩

theorem save_down {w0 : World} (b_v b_t g : Nat) (x rr : Value) (u : Value) (hu1 : u.oneCell' = true) (hH : HS [b_v] w0 w0 [[(b_v, Obj.cells (vC b_t g x rr true).toArray 68 (0, 0))]]) :
    Calls Tryd.prog 24 #[(.pointer (some ⟨b_v, 0, none⟩)), u] w0 (Ret fun r w' => r = I 100 ∧ HS [b_v] w0 w' [[(b_v, Obj.cells (vC b_t g x rr true).toArray 68 (0, 0))]]) := by
 refine start (n := 57) (E := [(0, _), (1, _)]) Tryd.func24 rfl rfl rfl (args_look rfl) ?_
 intro a hA
 refine wp_seq_k fun K1 hK1 => ?_
 refine wp_region_lit ?_
 refine sl hA (lo_box1 hH rfl rfl) rfl ?_
 clear hH; rintro _ w ⟨b_t2, rfl, hH⟩ a hA
 refine sl hA (lo_box1 hH rfl hu1) rfl ?_
 clear hH; rintro _ w ⟨b_t3, rfl, hH⟩ a hA
 refine asg hA fun a hA => ?_
 refine wpList_nil ?_
 refine hK1 _ _ ?_
 clear hK1
 replace hA := hA.s3 4 3 2
 refine wp_seq_k fun K2 hK2 => ?_
 refine wp_seq_k fun K3 hK3 => ?_
 refine wp_region_lit ?_
 refine sq hA (q_loadB hH 1 rfl (List.mem_singleton.2 rfl) Tryd.underlying27 rfl rfl rfl) rfl fun a hA => ?_
 replace hH := hH.pick [2, 0, 1] (Hs' := [_, _, _]) rfl
 refine sl hA (lo_call fn42 rfl (off_t b_v b_t _ _ _ (HS.handed (Ns1 := [_]) hH))) rfl ?_
 rintro _ w ⟨rfl, hC⟩ a hA
 replace hH := HS.call (Ns1 := [_]) hH hC
 clear hC
 refine asg hA fun a hA => ?_
 refine wpList_nil ?_
 refine hK3 _ _ ?_
 clear hK3
 replace hA := hA.s4 5 4 3 2
 refine wp_seq_k fun K4 hK4 => ?_
 refine wp_region_lit ?_
 refine mv hA fun a hA => ?_
 refine sq hA (q_neqI (n := 0) rfl rfl) rfl fun a hA => ?_
 refine wpList_nil ?_
 refine hK4 _ _ ?_
 clear hK4
 replace hA := hA.s5 12 5 4 3 2
 refine cond_d hA rfl (fun _ => ?_) (fun hnn => absurd ((by decide)) hnn)
 refine wp_seq_k fun K5 hK5 => ?_
 refine wp_region_lit ?_
 refine mv hA fun a hA => ?_
 refine asg hA fun a hA => ?_
 refine wpList_nil ?_
 refine hK5 _ _ ?_
 clear hK5
 replace hA := hA.s3 4 3 2
 refine wp_ret ?_
 refine then_ret ?_
 refine post_ret hA (res_1 rfl hA rfl) ?_
 replace hH := hH.pick [0] (Hs' := [_]) rfl
 exact ⟨_, rfl, rfl, hH⟩

theorem add_long {w0 : World} (b_v b_t g : Nat) (x rr : Value) (u : Value) (l : Bs) (hu : By [b_v] w0 u l) (hll : 262080 < l.length) (hH : HS [b_v] w0 w0 [[(b_v, Obj.cells (vC b_t g x rr false).toArray 68 (0, 0))]]) :
    Calls Tryd.prog 22 #[(.pointer (some ⟨b_v, 0, none⟩)), u] w0 (Ret fun r w' => r = I 42 ∧ HS [b_v] w0 w' [[(b_v, Obj.cells (vC b_t g x rr false).toArray 68 (0, 0))]]) := by
 refine start (n := 35) (E := [(0, _), (1, _)]) Tryd.func22 rfl rfl rfl (args_look rfl) ?_
 intro a hA
 refine wp_seq_k fun K1 hK1 => ?_
 refine wp_region_lit ?_
 refine sl hA (lo_box1 hH rfl rfl) rfl ?_
 clear hH; rintro _ w ⟨b_t2, rfl, hH⟩ a hA
 refine sl hA (lo_box1 hH rfl (Rd.one hu)) rfl ?_
 clear hH; rintro _ w ⟨b_t3, rfl, hH⟩ a hA
 refine asg hA fun a hA => ?_
 refine wpList_nil ?_
 refine hK1 _ _ ?_
 clear hK1
 replace hA := hA.s3 4 3 2
 refine wp_seq_k fun K2 hK2 => ?_
 refine wp_seq_k fun K3 hK3 => ?_
 refine wp_region_lit ?_
 refine sq hA (q_loadB hH 1 rfl (List.mem_singleton.2 rfl) Tryd.underlying27 rfl rfl rfl) rfl fun a hA => ?_
 replace hH := hH.pick [2, 0, 1] (Hs' := [_, _, _]) rfl
 refine sl hA (lo_call fn42 rfl (off_f b_v b_t _ _ _ (HS.handed (Ns1 := [_]) hH))) rfl ?_
 rintro _ w ⟨rfl, hC⟩ a hA
 replace hH := HS.call (Ns1 := [_]) hH hC
 clear hC
 refine asg hA fun a hA => ?_
 refine wpList_nil ?_
 refine hK3 _ _ ?_
 clear hK3
 replace hA := hA.s4 5 4 3 2
 refine wp_seq_k fun K4 hK4 => ?_
 refine wp_region_lit ?_
 refine mv hA fun a hA => ?_
 refine sq hA (q_neqI (n := 0) rfl rfl) rfl fun a hA => ?_
 refine wpList_nil ?_
 refine hK4 _ _ ?_
 clear hK4
 replace hA := hA.s5 10 5 4 3 2
 refine cond_d hA rfl (fun hnn => absurd hnn ((fun h => h rfl))) (fun _ => ?_)
 refine wp_skip ?_
 refine hK2 _ _ ?_
 clear hK2
 replace hA := hA.s3 4 3 2
 refine wp_seq_k fun K5 hK5 => ?_
 refine wp_seq_k fun K6 hK6 => ?_
 refine wp_region_lit ?_
 refine sq hA (q_loadB hH 1 rfl (List.mem_singleton.2 rfl) Tryd.underlying32 rfl rfl rfl) rfl fun a hA => ?_
 refine sq hA (q_len Tryd.underlying32 rfl (Rd.shp hu)) rfl fun a hA => ?_
 refine sq hA (q_gtrI (n := 262080) rfl rfl) rfl fun a hA => ?_
 refine wpList_nil ?_
 refine hK6 _ _ ?_
 clear hK6
 replace hA := hA.s4 14 4 3 2
 refine cond_d hA rfl (fun _ => ?_) (fun hnn => absurd (by omega) hnn)
 refine wp_seq_k fun K7 hK7 => ?_
 refine wp_region_lit ?_
 refine asg hA fun a hA => ?_
 refine wpList_nil ?_
 refine hK7 _ _ ?_
 clear hK7
 replace hA := hA.s3 4 3 2
 refine wp_ret ?_
 refine then_ret ?_
 refine post_ret hA (res_1 rfl hA rfl) ?_
 replace hH := hH.pick [0] (Hs' := [_]) rfl
 exact ⟨_, rfl, rfl, hH⟩

theorem save_long {w0 : World} (b_v b_t g : Nat) (x rr : Value) (u : Value) (l : Bs) (hu : By [b_v] w0 u l) (hll : 262080 < l.length) (hH : HS [b_v] w0 w0 [[(b_v, Obj.cells (vC b_t g x rr false).toArray 68 (0, 0))]]) :
    Calls Tryd.prog 24 #[(.pointer (some ⟨b_v, 0, none⟩)), u] w0 (Ret fun r w' => r = I 42 ∧ HS [b_v] w0 w' [[(b_v, Obj.cells (vC b_t g x rr false).toArray 68 (0, 0))]]) := by
 refine start (n := 57) (E := [(0, _), (1, _)]) Tryd.func24 rfl rfl rfl (args_look rfl) ?_
 intro a hA
 refine wp_seq_k fun K1 hK1 => ?_
 refine wp_region_lit ?_
 refine sl hA (lo_box1 hH rfl rfl) rfl ?_
 clear hH; rintro _ w ⟨b_t2, rfl, hH⟩ a hA
 refine sl hA (lo_box1 hH rfl (Rd.one hu)) rfl ?_
 clear hH; rintro _ w ⟨b_t3, rfl, hH⟩ a hA
 refine asg hA fun a hA => ?_
 refine wpList_nil ?_
 refine hK1 _ _ ?_
 clear hK1
 replace hA := hA.s3 4 3 2
 refine wp_seq_k fun K2 hK2 => ?_
 refine wp_seq_k fun K3 hK3 => ?_
 refine wp_region_lit ?_
 refine sq hA (q_loadB hH 1 rfl (List.mem_singleton.2 rfl) Tryd.underlying27 rfl rfl rfl) rfl fun a hA => ?_
 replace hH := hH.pick [2, 0, 1] (Hs' := [_, _, _]) rfl
 refine sl hA (lo_call fn42 rfl (off_f b_v b_t _ _ _ (HS.handed (Ns1 := [_]) hH))) rfl ?_
 rintro _ w ⟨rfl, hC⟩ a hA
 replace hH := HS.call (Ns1 := [_]) hH hC
 clear hC
 refine asg hA fun a hA => ?_
 refine wpList_nil ?_
 refine hK3 _ _ ?_
 clear hK3
 replace hA := hA.s4 5 4 3 2
 refine wp_seq_k fun K4 hK4 => ?_
 refine wp_region_lit ?_
 refine mv hA fun a hA => ?_
 refine sq hA (q_neqI (n := 0) rfl rfl) rfl fun a hA => ?_
 refine wpList_nil ?_
 refine hK4 _ _ ?_
 clear hK4
 replace hA := hA.s5 12 5 4 3 2
 refine cond_d hA rfl (fun hnn => absurd hnn ((fun h => h rfl))) (fun _ => ?_)
 refine wp_skip ?_
 refine hK2 _ _ ?_
 clear hK2
 replace hA := hA.s3 4 3 2
 refine wp_seq_k fun K5 hK5 => ?_
 refine wp_block ?_
 refine wp_seq_k fun K6 hK6 => ?_
 refine wp_region_lit ?_
 refine sq hA (q_loadB hH 1 rfl (List.mem_singleton.2 rfl) Tryd.underlying32 rfl rfl rfl) rfl fun a hA => ?_
 refine sq hA (q_len Tryd.underlying32 rfl (Rd.shp hu)) rfl fun a hA => ?_
 refine sq hA (q_gtrI (n := 262080) rfl rfl) rfl fun a hA => ?_
 refine asg hA fun a hA => ?_
 refine wpList_nil ?_
 refine hK6 _ _ ?_
 clear hK6
 replace hA := hA.s4 14 4 3 2
 refine cond_d hA rfl (fun _ => ?_) (fun hnn => absurd (by omega) hnn)
 refine wp_seq_k fun K7 hK7 => ?_
 refine wp_region_lit ?_
 refine asg hA fun a hA => ?_
 refine wpList_nil ?_
 refine hK7 _ _ ?_
 clear hK7
 replace hA := hA.s3 4 3 2
 refine wp_ret ?_
 refine block_ret ?_
 refine then_ret ?_
 refine post_ret hA (res_1 rfl hA rfl) ?_
 replace hH := hH.pick [0] (Hs' := [_]) rfl
 exact ⟨_, rfl, rfl, hH⟩

theorem save_full {w0 : World} (b_v b_t g : Nat) (x rr : Value) (u : Value) (l : Bs) (hu : By [b_v] w0 u l) (hll : l.length ≤ 262080) (hgg : g = 1099511627776) (hH : HS [b_v] w0 w0 [[(b_v, Obj.cells (vC b_t g x rr false).toArray 68 (0, 0))]]) :
    Calls Tryd.prog 24 #[(.pointer (some ⟨b_v, 0, none⟩)), u] w0 (Ret fun r w' => r = I 90 ∧ HS [b_v] w0 w' [[(b_v, Obj.cells (vC b_t g x rr false).toArray 68 (0, 0))]]) := by
 refine start (n := 57) (E := [(0, _), (1, _)]) Tryd.func24 rfl rfl rfl (args_look rfl) ?_
 intro a hA
 refine wp_seq_k fun K1 hK1 => ?_
 refine wp_region_lit ?_
 refine sl hA (lo_box1 hH rfl rfl) rfl ?_
 clear hH; rintro _ w ⟨b_t2, rfl, hH⟩ a hA
 refine sl hA (lo_box1 hH rfl (Rd.one hu)) rfl ?_
 clear hH; rintro _ w ⟨b_t3, rfl, hH⟩ a hA
 refine asg hA fun a hA => ?_
 refine wpList_nil ?_
 refine hK1 _ _ ?_
 clear hK1
 replace hA := hA.s3 4 3 2
 refine wp_seq_k fun K2 hK2 => ?_
 refine wp_seq_k fun K3 hK3 => ?_
 refine wp_region_lit ?_
 refine sq hA (q_loadB hH 1 rfl (List.mem_singleton.2 rfl) Tryd.underlying27 rfl rfl rfl) rfl fun a hA => ?_
 replace hH := hH.pick [2, 0, 1] (Hs' := [_, _, _]) rfl
 refine sl hA (lo_call fn42 rfl (off_f b_v b_t _ _ _ (HS.handed (Ns1 := [_]) hH))) rfl ?_
 rintro _ w ⟨rfl, hC⟩ a hA
 replace hH := HS.call (Ns1 := [_]) hH hC
 clear hC
 refine asg hA fun a hA => ?_
 refine wpList_nil ?_
 refine hK3 _ _ ?_
 clear hK3
 replace hA := hA.s4 5 4 3 2
 refine wp_seq_k fun K4 hK4 => ?_
 refine wp_region_lit ?_
 refine mv hA fun a hA => ?_
 refine sq hA (q_neqI (n := 0) rfl rfl) rfl fun a hA => ?_
 refine wpList_nil ?_
 refine hK4 _ _ ?_
 clear hK4
 replace hA := hA.s5 12 5 4 3 2
 refine cond_d hA rfl (fun hnn => absurd hnn ((fun h => h rfl))) (fun _ => ?_)
 refine wp_skip ?_
 refine hK2 _ _ ?_
 clear hK2
 replace hA := hA.s3 4 3 2
 refine wp_seq_k fun K5 hK5 => ?_
 refine wp_block ?_
 refine wp_seq_k fun K6 hK6 => ?_
 refine wp_region_lit ?_
 refine sq hA (q_loadB hH 1 rfl (List.mem_singleton.2 rfl) Tryd.underlying32 rfl rfl rfl) rfl fun a hA => ?_
 refine sq hA (q_len Tryd.underlying32 rfl (Rd.shp hu)) rfl fun a hA => ?_
 refine sq hA (q_gtrI (n := 262080) rfl rfl) rfl fun a hA => ?_
 refine asg hA fun a hA => ?_
 refine wpList_nil ?_
 refine hK6 _ _ ?_
 clear hK6
 replace hA := hA.s4 14 4 3 2
 refine cond_d hA rfl (fun hnn => absurd hnn (by omega)) (fun _ => ?_)
 refine wp_seq_k fun K7 hK7 => ?_
 refine wp_region_lit ?_
 refine sq hA (q_loadB hH 2 rfl (List.mem_singleton.2 rfl) Tryd.underlying27 rfl rfl rfl) rfl fun a hA => ?_
 refine sq hA (q_nilCheck rfl) rfl fun a hA => ?_
 refine sq hA (q_fld 1 Tryd.underlying68 rfl rfl ti3 rfl) rfl fun a hA => ?_
 refine sq hA (q_loadB hH 0 rfl (List.mem_singleton.2 rfl) Tryd.underlying3 rfl rfl rfl) rfl fun a hA => ?_
 refine sq hA (q_eqlI (n := 1099511627776) rfl rfl) rfl fun a hA => ?_
 refine asg hA fun a hA => ?_
 refine wpList_nil ?_
 refine hK7 _ _ ?_
 clear hK7
 replace hA := hA.s4 18 4 3 2
 refine cond_d hA rfl (fun _ => ?_) (fun hnn => absurd (by omega) hnn)
 refine wp_seq_k fun K8 hK8 => ?_
 refine wp_region_lit ?_
 refine asg hA fun a hA => ?_
 refine wpList_nil ?_
 refine hK8 _ _ ?_
 clear hK8
 replace hA := hA.s3 4 3 2
 refine wp_ret ?_
 refine block_ret ?_
 refine then_ret ?_
 refine post_ret hA (res_1 rfl hA rfl) ?_
 replace hH := hH.pick [0] (Hs' := [_]) rfl
 exact ⟨_, rfl, rfl, hH⟩

set_option maxHeartbeats 1000000 in
theorem add_any {w0 : World} {lv : Nat} (hg : Gl lv w0) (b_v b_t g : Nat) (x rr : Value) (u : Value) (l : Bs) (T : Tp) (N : Hl) (hT : TM 5 76 66 b_t T N) (hB : Rdy T 4000) (recs : List Bs) (N_o N_od : Hl) (hR_r : RowsH 32 rr recs N_o N_od) (hrn : recs.length ≤ 1048576) (hgM : NG lv (doms [N, [(b_v, Obj.cells (vC b_t g x rr false).toArray 68 (0, 0))], N_o, N_od])) (hu : By (doms [N, [(b_v, Obj.cells (vC b_t g x rr false).toArray 68 (0, 0))], N_o, N_od]) w0 u l) (hl : l.length ≤ 262080) (hg40 : g ≤ 1099511627776) (hH : HS (doms [N, [(b_v, Obj.cells (vC b_t g x rr false).toArray 68 (0, 0))], N_o, N_od]) w0 w0 [N, [(b_v, Obj.cells (vC b_t g x rr false).toArray 68 (0, 0))], N_o, N_od]) :
    Calls Tryd.prog 22 #[(.pointer (some ⟨b_v, 0, none⟩)), u] w0 (Ret fun r w' => ∃ N' rr' N_o' N_od', r = I (addS g l T).1 ∧ TM 5 76 66 b_t (addS g l T).2 N' ∧ RowsH 32 rr' (if (addS g l T).1 = 0 then recs ++ [l] else recs) N_o' N_od' ∧ HS (doms [N, [(b_v, Obj.cells (vC b_t g x rr false).toArray 68 (0, 0))], N_o, N_od]) w0 w' [N', [(b_v, Obj.cells (vC b_t g x rr' (decide ((addS g l T).1 = 100))).toArray 68 (0, 0))], N_o', N_od']) := by
 refine start (n := 35) (E := [(0, _), (1, _)]) Tryd.func22 rfl rfl rfl (args_look rfl) ?_
 intro a hA
 refine wp_seq_k fun K1 hK1 => ?_
 refine wp_region_lit ?_
 refine sl hA (lo_box1 hH rfl rfl) rfl ?_
 clear hH; rintro _ w ⟨b_t2, rfl, hH⟩ a hA
 refine sl hA (lo_box1 hH rfl (Rd.one hu)) rfl ?_
 clear hH; rintro _ w ⟨b_t3, rfl, hH⟩ a hA
 refine asg hA fun a hA => ?_
 refine wpList_nil ?_
 refine hK1 _ _ ?_
 clear hK1
 replace hA := hA.s3 4 3 2
 refine wp_seq_k fun K2 hK2 => ?_
 refine wp_seq_k fun K3 hK3 => ?_
 refine wp_region_lit ?_
 refine sq hA (q_loadB hH 1 rfl (List.mem_singleton.2 rfl) Tryd.underlying27 rfl rfl rfl) rfl fun a hA => ?_
 replace hH := hH.pick [3, 0, 1, 2, 4, 5] (Hs' := [_, _, _, _, _, _]) rfl
 refine sl hA (lo_call fn42 rfl (off_f b_v b_t _ _ _ (HS.handed (Ns1 := [_]) hH))) rfl ?_
 rintro _ w ⟨rfl, hC⟩ a hA
 replace hH := HS.call (Ns1 := [_]) hH hC
 clear hC
 refine asg hA fun a hA => ?_
 refine wpList_nil ?_
 refine hK3 _ _ ?_
 clear hK3
 replace hA := hA.s4 5 4 3 2
 refine wp_seq_k fun K4 hK4 => ?_
 refine wp_region_lit ?_
 refine mv hA fun a hA => ?_
 refine sq hA (q_neqI (n := 0) rfl rfl) rfl fun a hA => ?_
 refine wpList_nil ?_
 refine hK4 _ _ ?_
 clear hK4
 replace hA := hA.s5 10 5 4 3 2
 refine cond_d hA rfl (fun hnn => absurd hnn ((fun h => h rfl))) (fun _ => ?_)
 refine wp_skip ?_
 refine hK2 _ _ ?_
 clear hK2
 replace hA := hA.s3 4 3 2
 refine wp_seq_k fun K5 hK5 => ?_
 refine wp_seq_k fun K6 hK6 => ?_
 refine wp_region_lit ?_
 refine sq hA (q_loadB hH 1 rfl (List.mem_singleton.2 rfl) Tryd.underlying32 rfl rfl rfl) rfl fun a hA => ?_
 refine sq hA (q_len Tryd.underlying32 rfl (Rd.shp hu)) rfl fun a hA => ?_
 refine sq hA (q_gtrI (n := 262080) rfl rfl) rfl fun a hA => ?_
 refine wpList_nil ?_
 refine hK6 _ _ ?_
 clear hK6
 replace hA := hA.s4 14 4 3 2
 refine cond_d hA rfl (fun hnn => absurd hnn (by omega)) (fun _ => ?_)
 refine wp_skip ?_
 refine hK5 _ _ ?_
 clear hK5
 replace hA := hA.s3 4 3 2
 refine wp_seq_k fun K7 hK7 => ?_
 refine any_goI mixed [1, 2, 4, 5] (Hs' := [_, _, _, _]) rfl (fun _ => true) hH ?_
 clear hH; intro w hH hS
 refine any_l 7 ?_
 refine r0 hA 0 1 rfl hS (fun w hH => (q_loadB hH 1 rfl (List.mem_singleton.2 rfl) Tryd.underlying27 rfl rfl rfl)) fun a hA => ?_
 refine p0 hA 1 3 rfl (fun w => (q_makeFunc rfl rfl)) fun a hA => ?_
 refine r0 hA 2 7 rfl hS (fun w hH => (q_loadB hH 1 rfl (List.mem_singleton.2 rfl) Tryd.underlying27 rfl rfl rfl)) fun a hA => ?_
 refine a1 hA 3 15 rfl (lo_call fn46 rfl (syncm_any b_v 0)) ?_
 rintro _ w ⟨b_p2, b_q2, rfl, hC⟩
 replace hH := HS.call0 hH hC
 clear hC
 replace hS := hH.pick [3, 4, 6, 7] (Hs' := [_, _, _, _]) rfl
 refine ⟨fun _ _ => hS, ?_⟩
 intro a hA
 refine a1 hA 4 31 rfl (lo_buildV (vs := [(.func (.func 44) #[] #[(.pointer (some ⟨b_t2, 0, none⟩)), (.pointer (some ⟨b_t3, 0, none⟩))]), (.func (.func 69) #[] #[(.pointer (some ⟨b_p2, 0, none⟩)), (.pointer (some ⟨b_q2, 0, none⟩))])]) hH Tryd.underlying104 ti84 rfl rfl rfl (by decide) (by decide) (ones_cons rfl (ones_cons rfl ones_nil))) ?_
 clear hH; rintro v_t19 w ⟨N_t19, hO_t19, hH⟩
 replace hS := hH.pick [4, 5, 7, 8] (Hs' := [_, _, _, _]) rfl
 refine ⟨fun _ _ => hS, ?_⟩
 intro a hA
 replace hH := hH.pick [6, 3, 0, 5, 4, 1, 2, 7, 8] (Hs' := [_, _, _, _, _, _, _, _, _]) rfl
 refine a1 hA 5 63 rfl (lo_call fn43 rfl (allA (hg.mono hH hgM) b_v b_t g x rr T N hT hB v_t19 N_t19 b_t2 b_t3 b_p2 b_q2 u l (HS.rdM (Ns1 := [_, _, _, _, _, _, _]) hH hu) hl hg40 hO_t19 (Gl.ngs (Ns1 := [_, _, _, _, _, _, _]) hg hgM hH) (HS.handed (Ns1 := [_, _, _, _, _, _, _]) hH))) ?_
 rintro _ w ⟨N', rfl, hT', hC⟩
 replace hH := HS.call (Ns1 := [_, _, _, _, _, _, _]) hH hC
 clear hC
 replace hS := hH.pick [4, 3, 7, 8] (Hs' := [_, _, _, _]) rfl
 refine ⟨fun _ _ => hS, ?_⟩
 intro a hA
 refine p0 hA 6 127 rfl (fun w => (q_assign rfl)) fun a hA => ?_
 refine a_end (by kernel_rfl) ?_ _
 refine hK7 _ _ ?_
 clear hK7
 replace hA := hA.s4 6 4 3 2
 refine wp_seq_k fun K8 hK8 => ?_
 refine wp_seq_k fun K9 hK9 => ?_
 refine wp_region_lit ?_
 refine mv hA fun a hA => ?_
 refine sq hA (q_eqlI (n := 0) rfl rfl) rfl fun a hA => ?_
 refine wpList_nil ?_
 refine hK9 _ _ ?_
 clear hK9
 replace hA := hA.s5 22 6 4 3 2
 refine cond_d hA rfl (fun hc22 => ?_) (fun hc22 => ?_)
 ·skip
  have hE : (addS g l T).1 = 0 := by omega
  refine any_goI mixed [0, 1, 2, 3, 4, 5, 6] (Hs' := [_, _, _, _, _, _, _]) rfl (fun j => !(Nat.beq j 11)) hH ?_
  clear hH; intro w hH hS
  refine any_l 12 ?_
  refine r0 hA 0 1 rfl hS (fun w hH => (q_loadB hH 3 rfl (List.mem_singleton.2 rfl) Tryd.underlying27 rfl rfl rfl)) fun a hA => ?_
  refine r0 hA 1 3 rfl hS (fun w hH => (q_loadB hH 3 rfl (List.mem_singleton.2 rfl) Tryd.underlying27 rfl rfl rfl)) fun a hA => ?_
  refine p0 hA 2 7 rfl (fun w => (q_nilCheck rfl)) fun a hA => ?_
  refine p0 hA 3 15 rfl (fun w => (q_fld 3 Tryd.underlying68 rfl rfl ti33 rfl)) fun a hA => ?_
  refine r0 hA 4 31 rfl hS (fun w hH => (q_loadB hH 1 rfl (List.mem_singleton.2 rfl) Tryd.underlying33 rfl rfl rfl)) fun a hA => ?_
  refine r0 hA 5 63 rfl hS (fun w hH => (q_loadB hH 4 rfl (List.mem_singleton.2 rfl) Tryd.underlying32 rfl rfl rfl)) fun a hA => ?_
  refine a1 hA 6 127 rfl (lo_call fn47 rfl (own12_any _ _ (hH.rd hu) (by first | omega | (simp; done) | (simp; omega)))) ?_
  rintro _ w ⟨v_t29, N_t29, rfl, hO_t29, hC⟩
  replace hH := HS.call0 hH hC
  clear hC
  replace hS := hH.pick [1, 2, 3, 4, 5, 6, 7] (Hs' := [_, _, _, _, _, _, _]) rfl
  refine ⟨fun _ _ => hS, ?_⟩
  intro a hA
  refine a1 hA 7 255 rfl (lo_build1 hH Tryd.underlying33 ti32 rfl rfl (Own.one hO_t29)) ?_
  clear hH; rintro v_t30 w ⟨N_t30, hO_t30, hH⟩
  replace hS := hH.pick [2, 3, 4, 5, 6, 7, 8] (Hs' := [_, _, _, _, _, _, _]) rfl
  refine ⟨fun _ _ => hS, ?_⟩
  intro a hA
  replace hH := hH.pick [9, 0, 1, 2, 3, 4, 5, 6, 7, 8, 10] (Hs' := [_, _, _, _, _, _, _, _, _, _, _]) rfl
  obtain ⟨vs_t31, hvl_t31, hvo_t31, hvr_t31⟩ := hR_r
  refine a1 hA 8 511 rfl (lo_append hH Tryd.underlying33 Tryd.underlying33 (.inl rfl) ti32 rfl rfl rfl hvo_t31 (Rd.src (Own.rd0 hO_t30 hH 1 rfl)) (by intro u hu; rw [List.mem_singleton.1 hu]; exact Own.one hO_t29) (by first | omega | (simp; done) | (simp; omega)) (by first | omega | (simp; done) | (simp; omega))) ?_
  clear hH; rintro v_t31 w ⟨N_t31, hO_t31, hH⟩
  replace hH := HS.join (hH.pick [2, 10, 0, 1, 3, 4, 5, 6, 7, 8, 9] (Hs' := [_, _, _, _, _, _, _, _, _, _, _]) rfl)
  obtain ⟨N_dt31, hN_dt31, hR_t31⟩ : ∃ N, N = _ ∧ RowsH 32 v_t31 _ N_t31 N := ⟨_, rfl, RowsH.snoc hvl_t31 hO_t31 hvr_t31 (Own.rdh hO_t29)⟩
  rw [← hN_dt31] at hH
  replace hS := hH.pick [3, 4, 5, 6, 7, 8, 9] (Hs' := [_, _, _, _, _, _, _]) rfl
  refine ⟨fun _ _ => hS, ?_⟩
  intro a hA
  refine p0 hA 9 1023 rfl (fun w => (q_nilCheck rfl)) fun a hA => ?_
  refine p0 hA 10 2047 rfl (fun w => (q_fld 3 Tryd.underlying68 rfl rfl ti33 rfl)) fun a hA => ?_
  replace hH := hH.pick [4, 0, 1, 2, 3, 5, 6, 7, 8, 9] (Hs' := [_, _, _, _, _, _, _, _, _, _]) rfl
  refine a0n hA 11 4095 rfl (lo_store1 hH ti33 rfl rfl ((show 3 < 5 by decide)) (RowsH.one hR_t31)) ?_
  clear hH; rintro _ w hH
  rw [vC_recs] at hH
  refine a_end (by kernel_rfl) ?_ _
  refine hK8 _ _ ?_
  clear hK8
  replace hA := hA.s2 6 4
  refine wp_seq_k fun K10 hK10 => ?_
  refine wp_region_lit ?_
  refine mv hA fun a hA => ?_
  refine asg hA fun a hA => ?_
  refine wpList_nil ?_
  refine hK10 _ _ ?_
  clear hK10
  replace hA := hA.s1 4
  refine wp_ret ?_
  refine post_ret hA (res_1 rfl hA rfl) ?_
  replace hH := hH.pick [4, 0, 2, 1, 3, 5, 6, 7, 8, 9] (Hs' := [_, _, _, _, _, _, _, _, _, _]) rfl
  replace hH := hH.pick [0, 1, 2, 3] (Hs' := [_, _, _, _]) rfl
  rw [if_pos hE]; exact ⟨_, rfl, N', v_t31, N_t31, N_dt31, rfl, hT', hR_t31, hH⟩
 ·skip
  have hE : ¬ (addS g l T).1 = 0 := by omega
  refine wp_skip ?_
  refine hK8 _ _ ?_
  clear hK8
  replace hA := hA.s2 6 4
  refine wp_seq_k fun K11 hK11 => ?_
  refine wp_region_lit ?_
  refine mv hA fun a hA => ?_
  refine asg hA fun a hA => ?_
  refine wpList_nil ?_
  refine hK11 _ _ ?_
  clear hK11
  replace hA := hA.s1 4
  refine wp_ret ?_
  refine post_ret hA (res_1 rfl hA rfl) ?_
  replace hH := hH.pick [0, 1, 7, 8, 2, 3, 4, 5, 6] (Hs' := [_, _, _, _, _, _, _, _, _]) rfl
  replace hH := hH.pick [0, 1, 2, 3] (Hs' := [_, _, _, _]) rfl
  rw [if_neg hE]; exact ⟨_, rfl, N', rr, N_o, N_od, rfl, hT', hR_r, hH⟩

set_option maxHeartbeats 1000000 in
theorem save_any {w0 : World} {lv : Nat} (hg : Gl lv w0) (b_v b_t g : Nat) (x rr : Value) (u : Value) (l : Bs) (T : Tp) (N : Hl) (hT : TM 5 76 66 b_t T N) (hB : Rdy T 4000) (hgM : NG lv (doms [N, [(b_v, Obj.cells (vC b_t g x rr false).toArray 68 (0, 0))]])) (hu : By (doms [N, [(b_v, Obj.cells (vC b_t g x rr false).toArray 68 (0, 0))]]) w0 u l) (hl : l.length ≤ 262080) (hg40 : g + 1 ≤ 1099511627776) (hH : HS (doms [N, [(b_v, Obj.cells (vC b_t g x rr false).toArray 68 (0, 0))]]) w0 w0 [N, [(b_v, Obj.cells (vC b_t g x rr false).toArray 68 (0, 0))]]) :
    Calls Tryd.prog 24 #[(.pointer (some ⟨b_v, 0, none⟩)), u] w0 (Ret fun r w' => ∃ N', r = I (saveS (g + 1) l T).1 ∧ TM 5 76 66 b_t (saveS (g + 1) l T).2 N' ∧ ((saveS (g + 1) l T).1 = 0 → ∃ x' N_x', Ow B8 5 x' l N_x' ∧ HS (doms [N, [(b_v, Obj.cells (vC b_t g x rr false).toArray 68 (0, 0))]]) w0 w' [N', [(b_v, Obj.cells (vC b_t (g + 1) x' nilV false).toArray 68 (0, 0))], N_x']) ∧ ((saveS (g + 1) l T).1 ≠ 0 → HS (doms [N, [(b_v, Obj.cells (vC b_t g x rr false).toArray 68 (0, 0))]]) w0 w' [N', [(b_v, Obj.cells (vC b_t g x rr (decide ((saveS (g + 1) l T).1 = 100))).toArray 68 (0, 0))]])) := by
 refine start (n := 57) (E := [(0, _), (1, _)]) Tryd.func24 rfl rfl rfl (args_look rfl) ?_
 intro a hA
 refine wp_seq_k fun K1 hK1 => ?_
 refine wp_region_lit ?_
 refine sl hA (lo_box1 hH rfl rfl) rfl ?_
 clear hH; rintro _ w ⟨b_t2, rfl, hH⟩ a hA
 refine sl hA (lo_box1 hH rfl (Rd.one hu)) rfl ?_
 clear hH; rintro _ w ⟨b_t3, rfl, hH⟩ a hA
 refine asg hA fun a hA => ?_
 refine wpList_nil ?_
 refine hK1 _ _ ?_
 clear hK1
 replace hA := hA.s3 4 3 2
 refine wp_seq_k fun K2 hK2 => ?_
 refine wp_seq_k fun K3 hK3 => ?_
 refine wp_region_lit ?_
 refine sq hA (q_loadB hH 1 rfl (List.mem_singleton.2 rfl) Tryd.underlying27 rfl rfl rfl) rfl fun a hA => ?_
 replace hH := hH.pick [3, 0, 1, 2] (Hs' := [_, _, _, _]) rfl
 refine sl hA (lo_call fn42 rfl (off_f b_v b_t _ _ _ (HS.handed (Ns1 := [_]) hH))) rfl ?_
 rintro _ w ⟨rfl, hC⟩ a hA
 replace hH := HS.call (Ns1 := [_]) hH hC
 clear hC
 refine asg hA fun a hA => ?_
 refine wpList_nil ?_
 refine hK3 _ _ ?_
 clear hK3
 replace hA := hA.s4 5 4 3 2
 refine wp_seq_k fun K4 hK4 => ?_
 refine wp_region_lit ?_
 refine mv hA fun a hA => ?_
 refine sq hA (q_neqI (n := 0) rfl rfl) rfl fun a hA => ?_
 refine wpList_nil ?_
 refine hK4 _ _ ?_
 clear hK4
 replace hA := hA.s5 12 5 4 3 2
 refine cond_d hA rfl (fun hnn => absurd hnn ((fun h => h rfl))) (fun _ => ?_)
 refine wp_skip ?_
 refine hK2 _ _ ?_
 clear hK2
 replace hA := hA.s3 4 3 2
 refine wp_seq_k fun K5 hK5 => ?_
 refine wp_block ?_
 refine wp_seq_k fun K6 hK6 => ?_
 refine wp_region_lit ?_
 refine sq hA (q_loadB hH 1 rfl (List.mem_singleton.2 rfl) Tryd.underlying32 rfl rfl rfl) rfl fun a hA => ?_
 refine sq hA (q_len Tryd.underlying32 rfl (Rd.shp hu)) rfl fun a hA => ?_
 refine sq hA (q_gtrI (n := 262080) rfl rfl) rfl fun a hA => ?_
 refine asg hA fun a hA => ?_
 refine wpList_nil ?_
 refine hK6 _ _ ?_
 clear hK6
 replace hA := hA.s4 14 4 3 2
 refine cond_d hA rfl (fun hnn => absurd hnn (by omega)) (fun _ => ?_)
 refine wp_seq_k fun K7 hK7 => ?_
 refine wp_region_lit ?_
 refine sq hA (q_loadB hH 2 rfl (List.mem_singleton.2 rfl) Tryd.underlying27 rfl rfl rfl) rfl fun a hA => ?_
 refine sq hA (q_nilCheck rfl) rfl fun a hA => ?_
 refine sq hA (q_fld 1 Tryd.underlying68 rfl rfl ti3 rfl) rfl fun a hA => ?_
 refine sq hA (q_loadB hH 0 rfl (List.mem_singleton.2 rfl) Tryd.underlying3 rfl rfl rfl) rfl fun a hA => ?_
 refine sq hA (q_eqlI (n := 1099511627776) rfl rfl) rfl fun a hA => ?_
 refine asg hA fun a hA => ?_
 refine wpList_nil ?_
 refine hK7 _ _ ?_
 clear hK7
 replace hA := hA.s4 18 4 3 2
 refine cond_d hA rfl (fun hnn => absurd hnn (by omega)) (fun _ => ?_)
 refine wp_skip ?_
 refine block_normal ?_
 refine hK5 _ _ ?_
 clear hK5
 replace hA := hA.s3 4 3 2
 refine wp_seq_k fun K8 hK8 => ?_
 refine wp_region_lit ?_
 refine sq hA (q_loadB hH 2 rfl (List.mem_singleton.2 rfl) Tryd.underlying27 rfl rfl rfl) rfl fun a hA => ?_
 refine sq hA (q_nilCheck rfl) rfl fun a hA => ?_
 refine sq hA (q_fld 1 Tryd.underlying68 rfl rfl ti3 rfl) rfl fun a hA => ?_
 refine sq hA (q_loadB hH 0 rfl (List.mem_singleton.2 rfl) Tryd.underlying3 rfl rfl rfl) rfl fun a hA => ?_
 refine sq hA (q_addI (n := 1) rfl rfl (by omega)) rfl fun a hA => ?_
 rw [show ((g : Nat) : Int) + 1 = ((g + 1 : Nat) : Int) by omega] at hA
 refine sl hA (lo_alloc1 hH ti3 rfl) rfl ?_
 clear hH; rintro _ w ⟨b_t6, rfl, hH⟩ a hA
 refine s0 hA (lo_store1 hH ti3 rfl rfl (by first | omega | (simp; done) | (simp; omega) | (rw [List.length_map]; assumption) | assumption | rfl | (simp [*]; done) | (simp [*]; omega)) rfl) ?_
 clear hH; rintro _ w hH
 refine wpList_nil ?_
 refine hK8 _ _ ?_
 clear hK8
 replace hA := hA.s4 6 4 3 2
 refine wp_seq_k fun K9 hK9 => ?_
 refine wp_region_lit ?_
 refine sq hA (q_loadB hH 0 rfl (List.mem_singleton.2 rfl) Tryd.underlying3 rfl rfl rfl) rfl fun a hA => ?_
 refine sl hA (lo_call fn34 rfl (slotOf_any (g + 1) (by omega))) rfl ?_
 rintro _ w ⟨rfl, hC⟩ a hA
 replace hH := HS.call0 hH hC
 clear hC
 refine sl hA (lo_alloc1 hH ti3 rfl) rfl ?_
 clear hH; rintro _ w ⟨b_t7, rfl, hH⟩ a hA
 refine s0 hA (lo_store1 hH ti3 rfl rfl (by first | omega | (simp; done) | (simp; omega) | (rw [List.length_map]; assumption) | assumption | rfl | (simp [*]; done) | (simp [*]; omega)) rfl) ?_
 clear hH; rintro _ w hH
 refine wpList_nil ?_
 refine hK9 _ _ ?_
 clear hK9
 replace hA := hA.s5 7 6 4 3 2
 refine wp_seq_k fun K10 hK10 => ?_
 refine any_goI mixed [0, 1, 3, 4] (Hs' := [_, _, _, _]) rfl (fun _ => true) hH ?_
 clear hH; intro w hH hS
 refine any_l 12 ?_
 refine r0 hA 0 1 rfl hS (fun w hH => (q_loadB hH 3 rfl (List.mem_singleton.2 rfl) Tryd.underlying27 rfl rfl rfl)) fun a hA => ?_
 refine p0 hA 1 3 rfl (fun w => (q_makeFunc rfl rfl)) fun a hA => ?_
 refine p0 hA 2 7 rfl (fun w => (q_makeFunc rfl rfl)) fun a hA => ?_
 refine r0 hA 3 15 rfl hS (fun w hH => (q_loadB hH 3 rfl (List.mem_singleton.2 rfl) Tryd.underlying27 rfl rfl rfl)) fun a hA => ?_
 refine r0 hA 4 31 rfl hS (fun w hH => (q_loadB hH 0 rfl (List.mem_singleton.2 rfl) Tryd.underlying3 rfl rfl rfl)) fun a hA => ?_
 refine p0 hA 6 95 rfl (fun w => (q_makeFunc rfl rfl)) fun a hA => ?_
 refine r0 hA 7 223 rfl hS (fun w hH => (q_loadB hH 3 rfl (List.mem_singleton.2 rfl) Tryd.underlying27 rfl rfl rfl)) fun a hA => ?_
 refine a1 hA 5 255 rfl (lo_call fn46 rfl (syncm_any b_v (slotG (g + 1)))) ?_
 rintro _ w ⟨b_p3, b_q3, rfl, hC⟩
 replace hH := HS.call0 hH hC
 clear hC
 replace hS := hH.pick [2, 3, 5, 6] (Hs' := [_, _, _, _]) rfl
 refine ⟨fun _ _ => hS, ?_⟩
 intro a hA
 refine a1 hA 8 511 rfl (lo_call fn46 rfl (syncm_any b_v 0)) ?_
 rintro _ w ⟨b_p5, b_q5, rfl, hC⟩
 replace hH := HS.call0 hH hC
 clear hC
 replace hS := hH.pick [4, 5, 7, 8] (Hs' := [_, _, _, _]) rfl
 refine ⟨fun _ _ => hS, ?_⟩
 intro a hA
 refine a1 hA 9 1023 rfl (lo_buildV (vs := [(.func (.func 48) #[] #[(.pointer (some ⟨b_t2, 0, none⟩)), (.pointer (some ⟨b_t7, 0, none⟩))]), (.func (.func 50) #[] #[(.pointer (some ⟨b_t2, 0, none⟩)), (.pointer (some ⟨b_t7, 0, none⟩)), (.pointer (some ⟨b_t6, 0, none⟩)), (.pointer (some ⟨b_t3, 0, none⟩))]), (.func (.func 69) #[] #[(.pointer (some ⟨b_p3, 0, none⟩)), (.pointer (some ⟨b_q3, 0, none⟩))]), (.func (.func 51) #[] #[(.pointer (some ⟨b_t2, 0, none⟩))]), (.func (.func 69) #[] #[(.pointer (some ⟨b_p5, 0, none⟩)), (.pointer (some ⟨b_q5, 0, none⟩))])]) hH Tryd.underlying104 ti84 rfl rfl rfl (by decide) (by decide) (ones_cons rfl (ones_cons rfl (ones_cons rfl (ones_cons rfl (ones_cons rfl ones_nil)))))) ?_
 clear hH; rintro v_t40 w ⟨N_t40, hO_t40, hH⟩
 replace hS := hH.pick [5, 6, 8, 9] (Hs' := [_, _, _, _]) rfl
 refine ⟨fun _ _ => hS, ?_⟩
 intro a hA
 replace hH := hH.pick [10, 7, 0, 9, 5, 6, 8, 3, 4, 1, 2] (Hs' := [_, _, _, _, _, _, _, _, _, _, _]) rfl
 refine a1 hA 10 2047 rfl (lo_call fn43 rfl (allS (hg.mono hH hgM) b_v b_t g x rr T N hT hB v_t40 N_t40 b_t2 b_t7 b_t6 b_t3 b_p3 b_q3 b_p5 b_q5 u l (HS.rdM (Ns1 := [_, _, _, _, _, _, _, _, _, _, _]) hH hu) hl hg40 hO_t40 (Gl.ngs (Ns1 := [_, _, _, _, _, _, _, _, _, _, _]) hg hgM hH) (HS.handed (Ns1 := [_, _, _, _, _, _, _, _, _, _, _]) hH))) ?_
 rintro _ w ⟨N', rfl, hT', hC⟩
 replace hH := HS.call (Ns1 := [_, _, _, _, _, _, _, _, _, _, _]) hH hC
 clear hC
 replace hS := hH.pick [4, 5, 6, 3] (Hs' := [_, _, _, _]) rfl
 refine ⟨fun _ _ => hS, ?_⟩
 intro a hA
 refine p0 hA 11 4095 rfl (fun w => (q_assign rfl)) fun a hA => ?_
 refine a_end (by kernel_rfl) ?_ _
 refine hK10 _ _ ?_
 clear hK10
 replace hA := hA.s5 8 6 4 3 2
 refine wp_seq_k fun K11 hK11 => ?_
 refine wp_seq_k fun K12 hK12 => ?_
 refine wp_region_lit ?_
 refine mv hA fun a hA => ?_
 refine sq hA (q_eqlI (n := 0) rfl rfl) rfl fun a hA => ?_
 refine wpList_nil ?_
 refine hK12 _ _ ?_
 clear hK12
 replace hA := hA.s6 43 8 6 4 3 2
 refine cond_d hA rfl (fun hc43 => ?_) (fun hc43 => ?_)
 ·skip
  have hE : (saveS (g + 1) l T).1 = 0 := by omega
  have h100 : decide ((saveS (g + 1) l T).1 = 100) = false := by rw [hE]; rfl
  rw [h100] at hH
  refine any_goI mixed [0, 2, 3, 4, 5, 6, 7, 8, 9, 10] (Hs' := [_, _, _, _, _, _, _, _, _, _]) rfl (fun j => !(Nat.beq j 14)) hH ?_
  clear hH; intro w hH hS
  refine any_l 15 ?_
  refine r0 hA 0 1 rfl hS (fun w hH => (q_loadB hH 2 rfl (List.mem_singleton.2 rfl) Tryd.underlying27 rfl rfl rfl)) fun a hA => ?_
  refine r0 hA 1 3 rfl hS (fun w hH => (q_loadB hH 2 rfl (List.mem_singleton.2 rfl) Tryd.underlying27 rfl rfl rfl)) fun a hA => ?_
  refine r0 hA 2 7 rfl hS (fun w hH => (q_loadB hH 2 rfl (List.mem_singleton.2 rfl) Tryd.underlying27 rfl rfl rfl)) fun a hA => ?_
  refine r0 hA 3 15 rfl hS (fun w hH => (q_loadB hH 4 rfl (List.mem_singleton.2 rfl) Tryd.underlying3 rfl rfl rfl)) fun a hA => ?_
  refine r0 hA 4 31 rfl hS (fun w hH => (q_loadB hH 5 rfl (List.mem_singleton.2 rfl) Tryd.underlying32 rfl rfl rfl)) fun a hA => ?_
  refine a1 hA 5 63 rfl (lo_call fn47 rfl (own12_any _ _ (hH.rd hu) (by first | omega | (simp; done) | (simp; omega)))) ?_
  rintro _ w ⟨v_t49, N_t49, rfl, hO_t49, hC⟩
  replace hH := HS.call0 hH hC
  clear hC
  replace hS := hH.pick [1, 3, 4, 5, 6, 7, 8, 9, 10, 11] (Hs' := [_, _, _, _, _, _, _, _, _, _]) rfl
  refine ⟨fun _ _ => hS, ?_⟩
  intro a hA
  refine p0 hA 6 127 rfl (fun w => (q_nilCheck rfl)) fun a hA => ?_
  refine p0 hA 7 255 rfl (fun w => (q_fld 1 Tryd.underlying68 rfl rfl ti3 rfl)) fun a hA => ?_
  replace hH := hH.pick [2, 0, 1, 3, 4, 5, 6, 7, 8, 9, 10, 11] (Hs' := [_, _, _, _, _, _, _, _, _, _, _, _]) rfl
  refine a0 hA 8 511 rfl (lo_store1 hH ti3 rfl rfl ((show 1 < 5 by decide)) rfl) ?_
  clear hH; rintro _ w hH
  rw [vC_gen] at hH
  replace hS := hH.pick [2, 3, 4, 5, 6, 7, 8, 9, 10, 11] (Hs' := [_, _, _, _, _, _, _, _, _, _]) rfl
  refine ⟨fun _ _ => hS, ?_⟩
  refine p0 hA 9 1023 rfl (fun w => (q_nilCheck rfl)) fun a hA => ?_
  refine p0 hA 10 2047 rfl (fun w => (q_fld 2 Tryd.underlying68 rfl rfl ti32 rfl)) fun a hA => ?_
  refine a0 hA 11 4095 rfl (lo_store1 hH ti32 rfl rfl ((show 2 < 5 by decide)) (Own.one hO_t49)) ?_
  clear hH; rintro _ w hH
  rw [vC_text] at hH
  replace hS := hH.pick [2, 3, 4, 5, 6, 7, 8, 9, 10, 11] (Hs' := [_, _, _, _, _, _, _, _, _, _]) rfl
  refine ⟨fun _ _ => hS, ?_⟩
  refine p0 hA 12 8191 rfl (fun w => (q_nilCheck rfl)) fun a hA => ?_
  refine p0 hA 13 16383 rfl (fun w => (q_fld 3 Tryd.underlying68 rfl rfl ti33 rfl)) fun a hA => ?_
  refine a0n hA 14 32767 rfl (lo_store1 hH ti33 rfl rfl ((show 3 < 5 by decide)) rfl) ?_
  clear hH; rintro _ w hH
  rw [vC_recs] at hH
  refine a_end (by kernel_rfl) ?_ _
  refine hK11 _ _ ?_
  clear hK11
  replace hA := hA.s2 8 4
  refine wp_seq_k fun K13 hK13 => ?_
  refine wp_region_lit ?_
  refine mv hA fun a hA => ?_
  refine asg hA fun a hA => ?_
  refine wpList_nil ?_
  refine hK13 _ _ ?_
  clear hK13
  replace hA := hA.s1 4
  refine wp_ret ?_
  refine post_ret hA (res_1 rfl hA rfl) ?_
  replace hH := hH.pick [2, 0, 1, 3, 4, 5, 6, 7, 8, 9, 10, 11] (Hs' := [_, _, _, _, _, _, _, _, _, _, _, _]) rfl
  replace hH := hH.pick [0, 1, 2] (Hs' := [_, _, _]) rfl
  exact ⟨_, rfl, N', rfl, hT', fun _ => ⟨v_t49, N_t49, hO_t49, hH⟩, fun h => absurd hE h⟩
 ·skip
  have hE : ¬ (saveS (g + 1) l T).1 = 0 := by omega
  refine wp_skip ?_
  refine hK11 _ _ ?_
  clear hK11
  replace hA := hA.s2 8 4
  refine wp_seq_k fun K14 hK14 => ?_
  refine wp_region_lit ?_
  refine mv hA fun a hA => ?_
  refine asg hA fun a hA => ?_
  refine wpList_nil ?_
  refine hK14 _ _ ?_
  clear hK14
  replace hA := hA.s1 4
  refine wp_ret ?_
  refine post_ret hA (res_1 rfl hA rfl) ?_
  replace hH := hH.pick [0, 1] (Hs' := [_, _]) rfl
  exact ⟨_, rfl, N', rfl, hT', fun h => absurd h hE, fun _ => hH⟩

end Go.Proofs.YthhdilafnfcpbaaDoor
