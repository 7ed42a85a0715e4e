/- Layer 12 (vault): steps. -/
import Derived.Test.YthhdilafnfcpbaaDoorJe
import Derived.Test.YthhdilafnfcpbaaDoorVz
namespace Go.Proofs.YthhdilafnfcpbaaDoor
open Go
set_option linter.unusedVariables false
set_option linter.unusedSimpArgs false
set_option maxRecDepth 100000

theorem syncc_any {w0 : World} (b_v b_t g : Nat) (x rr : Value) (d : Bool) (T : Tp) (N : Hl) (hT : TM 5 76 66 b_t T N) (hf9 : T.fuse ≤ 9223372036854775807) (b_p b_q : Nat) (i : Nat) (hi : i < 4) (hop : (T.fs i).op.length ≤ 2097152) (hnl : (T.fs i).now.length ≤ 1048576) (hH : HS (doms [N, [(b_v, Obj.cells (vC b_t g x rr d).toArray 68 (0, 0))], [(b_p, Obj.cells [(.pointer (some ⟨b_v, 0, none⟩))].toArray 27 (0, 0))], [(b_q, Obj.cells [I i].toArray 3 (0, 0))]]) w0 w0 [N, [(b_v, Obj.cells (vC b_t g x rr d).toArray 68 (0, 0))], [(b_p, Obj.cells [(.pointer (some ⟨b_v, 0, none⟩))].toArray 27 (0, 0))], [(b_q, Obj.cells [I i].toArray 3 (0, 0))]]) :
    Calls Tryd.prog 69 #[(.pointer (some ⟨b_p, 0, none⟩)), (.pointer (some ⟨b_q, 0, none⟩))] w0 (Ret fun r w' => ∃ N', r = I (T.sync i).1 ∧ TM 5 76 66 b_t (T.sync i).2 N' ∧ HS (doms [N, [(b_v, Obj.cells (vC b_t g x rr d).toArray 68 (0, 0))], [(b_p, Obj.cells [(.pointer (some ⟨b_v, 0, none⟩))].toArray 27 (0, 0))], [(b_q, Obj.cells [I i].toArray 3 (0, 0))]]) w0 w' [N', [(b_v, Obj.cells (vC b_t g x rr d).toArray 68 (0, 0))], [(b_p, Obj.cells [(.pointer (some ⟨b_v, 0, none⟩))].toArray 27 (0, 0))], [(b_q, Obj.cells [I i].toArray 3 (0, 0))]]) := by
 refine start (n := 9) (E := [(0, _), (1, _)]) Tryd.func69 rfl rfl rfl (args_look rfl) ?_
 intro a hA
 refine wp_seq_k fun K1 hK1 => ?_
 refine wp_region_lit ?_
 refine asg hA fun a hA => ?_
 refine wpList_nil ?_
 refine hK1 _ _ ?_
 clear hK1
 refine wp_seq_k fun K2 hK2 => ?_
 refine any_goI mixed [1, 2, 3] (Hs' := [_, _, _]) rfl (fun _ => true) hH ?_
 clear hH; intro w hH hS
 refine any_l 7 ?_
 refine r0 hA 0 1 rfl hS (fun w hH => (q_loadB hH 1 rfl (List.mem_singleton.2 rfl) Tryd.underlying27 rfl rfl rfl)) fun a hA => ?_
 refine p0 hA 1 3 rfl (fun w => (q_nilCheck rfl)) fun a hA => ?_
 refine p0 hA 2 7 rfl (fun w => (q_fld 0 Tryd.underlying68 rfl rfl ti25 rfl)) fun a hA => ?_
 refine r0 hA 3 15 rfl hS (fun w hH => (q_loadB hH 0 rfl (List.mem_singleton.2 rfl) Tryd.underlying25 rfl rfl rfl)) fun a hA => ?_
 refine r0 hA 4 31 rfl hS (fun w hH => (q_loadB hH 2 rfl (List.mem_singleton.2 rfl) Tryd.underlying3 rfl rfl rfl)) fun a hA => ?_
 refine a1 hA 5 63 rfl (lo_call fn70 rfl (sync_tm b_t T N hT i hi hf9 hop hnl (HS.handed (Ns1 := [_]) hH))) ?_
 rintro _ w ⟨N', rfl, hT', hC⟩
 replace hH := HS.call (Ns1 := [_]) hH hC
 clear hC
 replace hS := hH.pick [1, 2, 3] (Hs' := [_, _, _]) rfl
 refine ⟨fun _ _ => hS, ?_⟩
 intro a hA
 refine p0 hA 6 127 rfl (fun w => (q_assign rfl)) fun a hA => ?_
 refine a_end (by kernel_rfl) ?_ _
 refine hK2 _ _ ?_
 clear hK2
 replace hA := hA.s1 2
 refine wp_ret ?_
 refine post_ret hA (res_1 rfl hA rfl) ?_
 exact ⟨_, rfl, N', rfl, hT', hH⟩

theorem replayc_any {w0 : World} (b_v b_t g : Nat) (x rr : Value) (d : Bool) (T : Tp) (N : Hl) (hT : TM 5 76 66 b_t T N) (hf9 : T.fuse ≤ 9223372036854775807) (b_p b_q : Nat) (n : Nat) (hop : (T.fs 0).op.length ≤ 2097152) (hnn : n ≤ (T.fs 0).now.length)  (hH : HS (doms [N, [(b_v, Obj.cells (vC b_t g x rr d).toArray 68 (0, 0))], [(b_p, Obj.cells [(.pointer (some ⟨b_v, 0, none⟩))].toArray 27 (0, 0))], [(b_q, Obj.cells [I n].toArray 3 (0, 0))]]) w0 w0 [N, [(b_v, Obj.cells (vC b_t g x rr d).toArray 68 (0, 0))], [(b_p, Obj.cells [(.pointer (some ⟨b_v, 0, none⟩))].toArray 27 (0, 0))], [(b_q, Obj.cells [I n].toArray 3 (0, 0))]]) :
    Calls Tryd.prog 61 #[(.pointer (some ⟨b_p, 0, none⟩)), (.pointer (some ⟨b_q, 0, none⟩))] w0 (Ret fun r w' => ∃ N', r = I (T.cut 0 n).1 ∧ TM 5 76 66 b_t (T.cut 0 n).2 N' ∧ HS (doms [N, [(b_v, Obj.cells (vC b_t g x rr d).toArray 68 (0, 0))], [(b_p, Obj.cells [(.pointer (some ⟨b_v, 0, none⟩))].toArray 27 (0, 0))], [(b_q, Obj.cells [I n].toArray 3 (0, 0))]]) w0 w' [N', [(b_v, Obj.cells (vC b_t g x rr d).toArray 68 (0, 0))], [(b_p, Obj.cells [(.pointer (some ⟨b_v, 0, none⟩))].toArray 27 (0, 0))], [(b_q, Obj.cells [I n].toArray 3 (0, 0))]]) := by
 refine start (n := 9) (E := [(0, _), (1, _)]) Tryd.func61 rfl rfl rfl (args_look rfl) ?_
 intro a hA
 refine wp_seq_k fun K1 hK1 => ?_
 refine wp_region_lit ?_
 refine asg hA fun a hA => ?_
 refine wpList_nil ?_
 refine hK1 _ _ ?_
 clear hK1
 refine wp_seq_k fun K2 hK2 => ?_
 refine any_goI mixed [1, 2, 3] (Hs' := [_, _, _]) rfl (fun _ => true) hH ?_
 clear hH; intro w hH hS
 refine any_l 7 ?_
 refine r0 hA 0 1 rfl hS (fun w hH => (q_loadB hH 1 rfl (List.mem_singleton.2 rfl) Tryd.underlying27 rfl rfl rfl)) fun a hA => ?_
 refine p0 hA 1 3 rfl (fun w => (q_nilCheck rfl)) fun a hA => ?_
 refine p0 hA 2 7 rfl (fun w => (q_fld 0 Tryd.underlying68 rfl rfl ti25 rfl)) fun a hA => ?_
 refine r0 hA 3 15 rfl hS (fun w hH => (q_loadB hH 0 rfl (List.mem_singleton.2 rfl) Tryd.underlying25 rfl rfl rfl)) fun a hA => ?_
 refine r0 hA 4 31 rfl hS (fun w hH => (q_loadB hH 2 rfl (List.mem_singleton.2 rfl) Tryd.underlying3 rfl rfl rfl)) fun a hA => ?_
 refine a1 hA 5 63 rfl (lo_call fn49 rfl (cut_tm b_t T N hT 0 (by decide) hf9 hop n hnn (HS.handed (Ns1 := [_]) hH))) ?_
 rintro _ w ⟨N', rfl, hT', hC⟩
 replace hH := HS.call (Ns1 := [_]) hH hC
 clear hC
 replace hS := hH.pick [1, 2, 3] (Hs' := [_, _, _]) rfl
 refine ⟨fun _ _ => hS, ?_⟩
 intro a hA
 refine p0 hA 6 127 rfl (fun w => (q_assign rfl)) fun a hA => ?_
 refine a_end (by kernel_rfl) ?_ _
 refine hK2 _ _ ?_
 clear hK2
 replace hA := hA.s1 2
 refine wp_ret ?_
 refine post_ret hA (res_1 rfl hA rfl) ?_
 exact ⟨_, rfl, N', rfl, hT', hH⟩

theorem addc_any {w0 : World} (b_v b_t g : Nat) (x rr : Value) (d : Bool) (T : Tp) (N : Hl) (hT : TM 5 76 66 b_t T N) (hf9 : T.fuse ≤ 9223372036854775807) (b_p b_q : Nat) (u : Value) (l : Bs) {lv : Nat} (hg : Gl lv w0) (hgM : NG lv (doms [N, [(b_v, Obj.cells (vC b_t g x rr d).toArray 68 (0, 0))], [(b_p, Obj.cells [(.pointer (some ⟨b_v, 0, none⟩))].toArray 27 (0, 0))], [(b_q, Obj.cells [u].toArray 32 (0, 0))]])) (hg40 : g ≤ 1099511627776) (hu : By (doms [N, [(b_v, Obj.cells (vC b_t g x rr d).toArray 68 (0, 0))], [(b_p, Obj.cells [(.pointer (some ⟨b_v, 0, none⟩))].toArray 27 (0, 0))], [(b_q, Obj.cells [u].toArray 32 (0, 0))]]) w0 u l) (hl : l.length ≤ 262080) (hop : (T.fs 0).op.length ≤ 2097152)  (hH : HS (doms [N, [(b_v, Obj.cells (vC b_t g x rr d).toArray 68 (0, 0))], [(b_p, Obj.cells [(.pointer (some ⟨b_v, 0, none⟩))].toArray 27 (0, 0))], [(b_q, Obj.cells [u].toArray 32 (0, 0))]]) w0 w0 [N, [(b_v, Obj.cells (vC b_t g x rr d).toArray 68 (0, 0))], [(b_p, Obj.cells [(.pointer (some ⟨b_v, 0, none⟩))].toArray 27 (0, 0))], [(b_q, Obj.cells [u].toArray 32 (0, 0))]]) :
    Calls Tryd.prog 44 #[(.pointer (some ⟨b_p, 0, none⟩)), (.pointer (some ⟨b_q, 0, none⟩))] w0 (Ret fun r w' => ∃ N', r = I (T.app 0 (wf (rec' g l))).1 ∧ TM 5 76 66 b_t (T.app 0 (wf (rec' g l))).2 N' ∧ HS (doms [N, [(b_v, Obj.cells (vC b_t g x rr d).toArray 68 (0, 0))], [(b_p, Obj.cells [(.pointer (some ⟨b_v, 0, none⟩))].toArray 27 (0, 0))], [(b_q, Obj.cells [u].toArray 32 (0, 0))]]) w0 w' [N', [(b_v, Obj.cells (vC b_t g x rr d).toArray 68 (0, 0))], [(b_p, Obj.cells [(.pointer (some ⟨b_v, 0, none⟩))].toArray 27 (0, 0))], [(b_q, Obj.cells [u].toArray 32 (0, 0))]]) := by
 refine start (n := 14) (E := [(0, _), (1, _)]) Tryd.func44 rfl rfl rfl (args_look rfl) ?_
 intro a hA
 have hwl := wf_len (g := g) (b := l) hg40 hl
 refine wp_seq_k fun K1 hK1 => ?_
 refine wp_region_lit ?_
 refine asg hA fun a hA => ?_
 refine wpList_nil ?_
 refine hK1 _ _ ?_
 clear hK1
 refine wp_seq_k fun K2 hK2 => ?_
 refine any_goI mixed [1, 2, 3] (Hs' := [_, _, _]) rfl (fun _ => true) hH ?_
 clear hH; intro w hH hS
 refine any_l 12 ?_
 refine r0 hA 0 1 rfl hS (fun w hH => (q_loadB hH 1 rfl (List.mem_singleton.2 rfl) Tryd.underlying27 rfl rfl rfl)) fun a hA => ?_
 refine p0 hA 1 3 rfl (fun w => (q_nilCheck rfl)) fun a hA => ?_
 refine p0 hA 2 7 rfl (fun w => (q_fld 0 Tryd.underlying68 rfl rfl ti25 rfl)) fun a hA => ?_
 refine r0 hA 3 15 rfl hS (fun w hH => (q_loadB hH 0 rfl (List.mem_singleton.2 rfl) Tryd.underlying25 rfl rfl rfl)) fun a hA => ?_
 refine r0 hA 4 31 rfl hS (fun w hH => (q_loadB hH 1 rfl (List.mem_singleton.2 rfl) Tryd.underlying27 rfl rfl rfl)) fun a hA => ?_
 refine p0 hA 5 63 rfl (fun w => (q_nilCheck rfl)) fun a hA => ?_
 refine p0 hA 6 127 rfl (fun w => (q_fld 1 Tryd.underlying68 rfl rfl ti3 rfl)) fun a hA => ?_
 refine r0 hA 7 255 rfl hS (fun w hH => (q_loadB hH 0 rfl (List.mem_singleton.2 rfl) Tryd.underlying3 rfl rfl rfl)) fun a hA => ?_
 refine r0 hA 8 511 rfl hS (fun w hH => (q_loadB hH 2 rfl (List.mem_singleton.2 rfl) Tryd.underlying32 rfl rfl rfl)) fun a hA => ?_
 refine a1 hA 9 1023 rfl (lo_call fn45 rfl (pack_any (hg.mono hH hgM) _ hg40 _ _ (hH.rd hu) (by first | omega | (simp; done) | (simp; omega)))) ?_
 rintro _ w ⟨v_t12, N_t12, rfl, hO_t12, hC⟩
 replace hH := HS.call0 hH hC
 clear hC
 replace hS := hH.pick [2, 3, 4] (Hs' := [_, _, _]) rfl
 refine ⟨fun _ _ => hS, ?_⟩
 intro a hA
 replace hH := hH.pick [1, 0, 2, 3, 4] (Hs' := [_, _, _, _, _]) rfl
 refine a1 hA 10 2047 rfl (lo_call fn17 rfl (app_tm b_t T N hT 0 (by first | assumption | decide) hf9 hop _ _ (by omega) (Own.rdM hO_t12 (Ns1 := [_]) hH 0 rfl) (HS.handed (Ns1 := [_]) hH))) ?_
 rintro _ w ⟨N', rfl, hT', hC⟩
 replace hH := HS.call (Ns1 := [_]) hH hC
 clear hC
 replace hS := hH.pick [2, 3, 4] (Hs' := [_, _, _]) rfl
 refine ⟨fun _ _ => hS, ?_⟩
 intro a hA
 refine p0 hA 11 4095 rfl (fun w => (q_assign rfl)) fun a hA => ?_
 refine a_end (by kernel_rfl) ?_ _
 refine hK2 _ _ ?_
 clear hK2
 replace hA := hA.s1 2
 refine wp_ret ?_
 refine post_ret hA (res_1 rfl hA rfl) ?_
 replace hH := hH.pick [0, 2, 3, 4, 1] (Hs' := [_, _, _, _, _]) rfl
 replace hH := hH.pick [0, 1, 2, 3] (Hs' := [_, _, _, _]) rfl
 exact ⟨_, rfl, N', rfl, hT', hH⟩

theorem save1_any {w0 : World} (b_v b_t g : Nat) (x rr : Value) (d : Bool) (T : Tp) (N : Hl) (hT : TM 5 76 66 b_t T N) (hf9 : T.fuse ≤ 9223372036854775807) (b_p b_q : Nat) (i : Nat) (hi : i < 4) (hop : (T.fs i).op.length ≤ 2097152)  (hH : HS (doms [N, [(b_v, Obj.cells (vC b_t g x rr d).toArray 68 (0, 0))], [(b_p, Obj.cells [(.pointer (some ⟨b_v, 0, none⟩))].toArray 27 (0, 0))], [(b_q, Obj.cells [I i].toArray 3 (0, 0))]]) w0 w0 [N, [(b_v, Obj.cells (vC b_t g x rr d).toArray 68 (0, 0))], [(b_p, Obj.cells [(.pointer (some ⟨b_v, 0, none⟩))].toArray 27 (0, 0))], [(b_q, Obj.cells [I i].toArray 3 (0, 0))]]) :
    Calls Tryd.prog 48 #[(.pointer (some ⟨b_p, 0, none⟩)), (.pointer (some ⟨b_q, 0, none⟩))] w0 (Ret fun r w' => ∃ N', r = I (T.cut i 0).1 ∧ TM 5 76 66 b_t (T.cut i 0).2 N' ∧ HS (doms [N, [(b_v, Obj.cells (vC b_t g x rr d).toArray 68 (0, 0))], [(b_p, Obj.cells [(.pointer (some ⟨b_v, 0, none⟩))].toArray 27 (0, 0))], [(b_q, Obj.cells [I i].toArray 3 (0, 0))]]) w0 w' [N', [(b_v, Obj.cells (vC b_t g x rr d).toArray 68 (0, 0))], [(b_p, Obj.cells [(.pointer (some ⟨b_v, 0, none⟩))].toArray 27 (0, 0))], [(b_q, Obj.cells [I i].toArray 3 (0, 0))]]) := by
 refine start (n := 9) (E := [(0, _), (1, _)]) Tryd.func48 rfl rfl rfl (args_look rfl) ?_
 intro a hA
 refine wp_seq_k fun K1 hK1 => ?_
 refine wp_region_lit ?_
 refine asg hA fun a hA => ?_
 refine wpList_nil ?_
 refine hK1 _ _ ?_
 clear hK1
 refine wp_seq_k fun K2 hK2 => ?_
 refine any_goI mixed [1, 2, 3] (Hs' := [_, _, _]) rfl (fun _ => true) hH ?_
 clear hH; intro w hH hS
 refine any_l 7 ?_
 refine r0 hA 0 1 rfl hS (fun w hH => (q_loadB hH 1 rfl (List.mem_singleton.2 rfl) Tryd.underlying27 rfl rfl rfl)) fun a hA => ?_
 refine p0 hA 1 3 rfl (fun w => (q_nilCheck rfl)) fun a hA => ?_
 refine p0 hA 2 7 rfl (fun w => (q_fld 0 Tryd.underlying68 rfl rfl ti25 rfl)) fun a hA => ?_
 refine r0 hA 3 15 rfl hS (fun w hH => (q_loadB hH 0 rfl (List.mem_singleton.2 rfl) Tryd.underlying25 rfl rfl rfl)) fun a hA => ?_
 refine r0 hA 4 31 rfl hS (fun w hH => (q_loadB hH 2 rfl (List.mem_singleton.2 rfl) Tryd.underlying3 rfl rfl rfl)) fun a hA => ?_
 refine a1 hA 5 63 rfl (lo_call fn49 rfl (cut_tm b_t T N hT i hi hf9 hop 0 (Nat.zero_le _) (HS.handed (Ns1 := [_]) hH))) ?_
 rintro _ w ⟨N', rfl, hT', hC⟩
 replace hH := HS.call (Ns1 := [_]) hH hC
 clear hC
 replace hS := hH.pick [1, 2, 3] (Hs' := [_, _, _]) rfl
 refine ⟨fun _ _ => hS, ?_⟩
 intro a hA
 refine p0 hA 6 127 rfl (fun w => (q_assign rfl)) fun a hA => ?_
 refine a_end (by kernel_rfl) ?_ _
 refine hK2 _ _ ?_
 clear hK2
 replace hA := hA.s1 2
 refine wp_ret ?_
 refine post_ret hA (res_1 rfl hA rfl) ?_
 exact ⟨_, rfl, N', rfl, hT', hH⟩

theorem save2_any {w0 : World} (b_v b_t g : Nat) (x rr : Value) (d : Bool) (T : Tp) (N : Hl) (hT : TM 5 76 66 b_t T N) (hf9 : T.fuse ≤ 9223372036854775807) (b_p b_q b_y b_z : Nat) (i k : Nat) (u : Value) (l : Bs) {lv : Nat} (hg : Gl lv w0) (hgM : NG lv (doms [N, [(b_v, Obj.cells (vC b_t g x rr d).toArray 68 (0, 0))], [(b_p, Obj.cells [(.pointer (some ⟨b_v, 0, none⟩))].toArray 27 (0, 0))], [(b_q, Obj.cells [I i].toArray 3 (0, 0))], [(b_y, Obj.cells [I k].toArray 3 (0, 0))], [(b_z, Obj.cells [u].toArray 32 (0, 0))]])) (hi : i < 4) (hg40 : k ≤ 1099511627776) (hu : By (doms [N, [(b_v, Obj.cells (vC b_t g x rr d).toArray 68 (0, 0))], [(b_p, Obj.cells [(.pointer (some ⟨b_v, 0, none⟩))].toArray 27 (0, 0))], [(b_q, Obj.cells [I i].toArray 3 (0, 0))], [(b_y, Obj.cells [I k].toArray 3 (0, 0))], [(b_z, Obj.cells [u].toArray 32 (0, 0))]]) w0 u l) (hl : l.length ≤ 262080) (hop : (T.fs i).op.length ≤ 2097152)  (hH : HS (doms [N, [(b_v, Obj.cells (vC b_t g x rr d).toArray 68 (0, 0))], [(b_p, Obj.cells [(.pointer (some ⟨b_v, 0, none⟩))].toArray 27 (0, 0))], [(b_q, Obj.cells [I i].toArray 3 (0, 0))], [(b_y, Obj.cells [I k].toArray 3 (0, 0))], [(b_z, Obj.cells [u].toArray 32 (0, 0))]]) w0 w0 [N, [(b_v, Obj.cells (vC b_t g x rr d).toArray 68 (0, 0))], [(b_p, Obj.cells [(.pointer (some ⟨b_v, 0, none⟩))].toArray 27 (0, 0))], [(b_q, Obj.cells [I i].toArray 3 (0, 0))], [(b_y, Obj.cells [I k].toArray 3 (0, 0))], [(b_z, Obj.cells [u].toArray 32 (0, 0))]]) :
    Calls Tryd.prog 50 #[(.pointer (some ⟨b_p, 0, none⟩)), (.pointer (some ⟨b_q, 0, none⟩)), (.pointer (some ⟨b_y, 0, none⟩)), (.pointer (some ⟨b_z, 0, none⟩))] w0 (Ret fun r w' => ∃ N', r = I (T.app i (wf (rec' k l))).1 ∧ TM 5 76 66 b_t (T.app i (wf (rec' k l))).2 N' ∧ HS (doms [N, [(b_v, Obj.cells (vC b_t g x rr d).toArray 68 (0, 0))], [(b_p, Obj.cells [(.pointer (some ⟨b_v, 0, none⟩))].toArray 27 (0, 0))], [(b_q, Obj.cells [I i].toArray 3 (0, 0))], [(b_y, Obj.cells [I k].toArray 3 (0, 0))], [(b_z, Obj.cells [u].toArray 32 (0, 0))]]) w0 w' [N', [(b_v, Obj.cells (vC b_t g x rr d).toArray 68 (0, 0))], [(b_p, Obj.cells [(.pointer (some ⟨b_v, 0, none⟩))].toArray 27 (0, 0))], [(b_q, Obj.cells [I i].toArray 3 (0, 0))], [(b_y, Obj.cells [I k].toArray 3 (0, 0))], [(b_z, Obj.cells [u].toArray 32 (0, 0))]]) := by
 refine start (n := 14) (E := [(0, _), (1, _), (2, _), (3, _)]) Tryd.func50 rfl rfl rfl (args_look rfl) ?_
 intro a hA
 have hwl := wf_len (g := k) (b := l) hg40 hl
 refine wp_seq_k fun K1 hK1 => ?_
 refine wp_region_lit ?_
 refine asg hA fun a hA => ?_
 refine wpList_nil ?_
 refine hK1 _ _ ?_
 clear hK1
 refine wp_seq_k fun K2 hK2 => ?_
 refine any_goI mixed [1, 2, 3, 4, 5] (Hs' := [_, _, _, _, _]) rfl (fun _ => true) hH ?_
 clear hH; intro w hH hS
 refine any_l 10 ?_
 refine r0 hA 0 1 rfl hS (fun w hH => (q_loadB hH 1 rfl (List.mem_singleton.2 rfl) Tryd.underlying27 rfl rfl rfl)) fun a hA => ?_
 refine p0 hA 1 3 rfl (fun w => (q_nilCheck rfl)) fun a hA => ?_
 refine p0 hA 2 7 rfl (fun w => (q_fld 0 Tryd.underlying68 rfl rfl ti25 rfl)) fun a hA => ?_
 refine r0 hA 3 15 rfl hS (fun w hH => (q_loadB hH 0 rfl (List.mem_singleton.2 rfl) Tryd.underlying25 rfl rfl rfl)) fun a hA => ?_
 refine r0 hA 4 31 rfl hS (fun w hH => (q_loadB hH 2 rfl (List.mem_singleton.2 rfl) Tryd.underlying3 rfl rfl rfl)) fun a hA => ?_
 refine r0 hA 5 63 rfl hS (fun w hH => (q_loadB hH 3 rfl (List.mem_singleton.2 rfl) Tryd.underlying3 rfl rfl rfl)) fun a hA => ?_
 refine r0 hA 6 127 rfl hS (fun w hH => (q_loadB hH 4 rfl (List.mem_singleton.2 rfl) Tryd.underlying32 rfl rfl rfl)) fun a hA => ?_
 refine a1 hA 7 255 rfl (lo_call fn45 rfl (pack_any (hg.mono hH hgM) _ hg40 _ _ (hH.rd hu) (by first | omega | (simp; done) | (simp; omega)))) ?_
 rintro _ w ⟨v_t12, N_t12, rfl, hO_t12, hC⟩
 replace hH := HS.call0 hH hC
 clear hC
 replace hS := hH.pick [2, 3, 4, 5, 6] (Hs' := [_, _, _, _, _]) rfl
 refine ⟨fun _ _ => hS, ?_⟩
 intro a hA
 replace hH := hH.pick [1, 0, 2, 3, 4, 5, 6] (Hs' := [_, _, _, _, _, _, _]) rfl
 refine a1 hA 8 511 rfl (lo_call fn17 rfl (app_tm b_t T N hT i (by first | assumption | decide) hf9 hop _ _ (by omega) (Own.rdM hO_t12 (Ns1 := [_]) hH 0 rfl) (HS.handed (Ns1 := [_]) hH))) ?_
 rintro _ w ⟨N', rfl, hT', hC⟩
 replace hH := HS.call (Ns1 := [_]) hH hC
 clear hC
 replace hS := hH.pick [2, 3, 4, 5, 6] (Hs' := [_, _, _, _, _]) rfl
 refine ⟨fun _ _ => hS, ?_⟩
 intro a hA
 refine p0 hA 9 1023 rfl (fun w => (q_assign rfl)) fun a hA => ?_
 refine a_end (by kernel_rfl) ?_ _
 refine hK2 _ _ ?_
 clear hK2
 replace hA := hA.s1 4
 refine wp_ret ?_
 refine post_ret hA (res_1 rfl hA rfl) ?_
 replace hH := hH.pick [0, 2, 3, 4, 5, 6, 1] (Hs' := [_, _, _, _, _, _, _]) rfl
 replace hH := hH.pick [0, 1, 2, 3, 4, 5] (Hs' := [_, _, _, _, _, _]) rfl
 exact ⟨_, rfl, N', rfl, hT', hH⟩

theorem save3_any {w0 : World} (b_v b_t g : Nat) (x rr : Value) (d : Bool) (T : Tp) (N : Hl) (hT : TM 5 76 66 b_t T N) (hf9 : T.fuse ≤ 9223372036854775807) (b_p : Nat) (hop : (T.fs 0).op.length ≤ 2097152)  (hH : HS (doms [N, [(b_v, Obj.cells (vC b_t g x rr d).toArray 68 (0, 0))], [(b_p, Obj.cells [(.pointer (some ⟨b_v, 0, none⟩))].toArray 27 (0, 0))]]) w0 w0 [N, [(b_v, Obj.cells (vC b_t g x rr d).toArray 68 (0, 0))], [(b_p, Obj.cells [(.pointer (some ⟨b_v, 0, none⟩))].toArray 27 (0, 0))]]) :
    Calls Tryd.prog 51 #[(.pointer (some ⟨b_p, 0, none⟩))] w0 (Ret fun r w' => ∃ N', r = I (T.cut 0 0).1 ∧ TM 5 76 66 b_t (T.cut 0 0).2 N' ∧ HS (doms [N, [(b_v, Obj.cells (vC b_t g x rr d).toArray 68 (0, 0))], [(b_p, Obj.cells [(.pointer (some ⟨b_v, 0, none⟩))].toArray 27 (0, 0))]]) w0 w' [N', [(b_v, Obj.cells (vC b_t g x rr d).toArray 68 (0, 0))], [(b_p, Obj.cells [(.pointer (some ⟨b_v, 0, none⟩))].toArray 27 (0, 0))]]) := by
 refine start (n := 7) (E := [(0, _)]) Tryd.func51 rfl rfl rfl (args_look rfl) ?_
 intro a hA
 refine wp_seq_k fun K1 hK1 => ?_
 refine wp_region_lit ?_
 refine asg hA fun a hA => ?_
 refine wpList_nil ?_
 refine hK1 _ _ ?_
 clear hK1
 refine wp_seq_k fun K2 hK2 => ?_
 refine wp_region_lit ?_
 refine sq hA (q_loadB hH 2 rfl (List.mem_singleton.2 rfl) Tryd.underlying27 rfl rfl rfl) rfl fun a hA => ?_
 refine sq hA (q_nilCheck rfl) rfl fun a hA => ?_
 refine sq hA (q_fld 0 Tryd.underlying68 rfl rfl ti25 rfl) rfl fun a hA => ?_
 refine sq hA (q_loadB hH 1 rfl (List.mem_singleton.2 rfl) Tryd.underlying25 rfl rfl rfl) rfl fun a hA => ?_
 refine sl hA (lo_call fn49 rfl (cut_tm b_t T N hT 0 (by decide) hf9 hop 0 (Nat.zero_le _) (HS.handed (Ns1 := [_]) hH))) rfl ?_
 rintro _ w ⟨N', rfl, hT', hC⟩ a hA
 replace hH := HS.call (Ns1 := [_]) hH hC
 clear hC
 refine asg hA fun a hA => ?_
 refine wpList_nil ?_
 refine hK2 _ _ ?_
 clear hK2
 replace hA := hA.s1 1
 refine wp_ret ?_
 refine post_ret hA (res_1 rfl hA rfl) ?_
 exact ⟨_, rfl, N', rfl, hT', hH⟩

end Go.Proofs.YthhdilafnfcpbaaDoor
