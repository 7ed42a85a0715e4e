/- Layer 2 (sha): a block. -/
import Derived.Test.YthhdilafnfcpbaaDoorTa
import Derived.Test.YthhdilafnfcpbaaDoorTb
import Derived.Test.YthhdilafnfcpbaaDoorLl
import Derived.Test.YthhdilafnfcpbaaDoorMza
import Derived.Test.YthhdilafnfcpbaaDoorBa
namespace Go.Proofs.YthhdilafnfcpbaaDoor
open Go
set_option linter.unusedVariables false
set_option linter.unusedSimpArgs false
set_option maxRecDepth 100000

set_option maxHeartbeats 1000000 in
theorem block_any {w0 : World} {lv : Nat} (hg : Gl lv w0) (s : List W) (v : Value) (l : List (BitVec 8)) (hs : s.length = 8) (hr : By [] w0 v l) (hl : l.length = 64) :
    Calls Tryd.prog 83 #[(.agg (s.map U32).toArray), v] w0 (Ret fun r w' => r = .tuple #[.agg ((blk s l).map U32).toArray, I 0] ∧ HS [] w0 w' []) := by
 have hH := HS.start w0
 refine start (n := 187) (E := [(0, _), (1, _)]) Tryd.func83 rfl rfl rfl (args_look rfl) ?_
 intro a hA
 refine wp_seq_k fun K1 hK1 => ?_
 refine wp_region_lit ?_
 refine sl hA (lo_boxA hH rfl) rfl ?_
 clear hH; rintro _ w ⟨b_t2, rfl, hH⟩ a hA
 refine sl hA (lo_allocA hH ti120) rfl ?_
 clear hH; rintro _ w ⟨b_t4, rfl, hH⟩ a hA
 refine asg hA fun a hA => ?_
 refine wpList_nil ?_
 refine hK1 _ _ ?_
 clear hK1
 replace hA := hA.s4 5 4 2 1
 refine wp_seq_k fun K2 hK2 => ?_
 refine wp_seq_k fun K3 hK3 => ?_
 refine wp_region_lit ?_
 refine mv hA fun a hA => ?_
 refine sq hA (q_len Tryd.underlying32 rfl (Rd.shp hr)) rfl fun a hA => ?_
 refine sq hA (q_neqI (n := 64) rfl rfl) rfl fun a hA => ?_
 refine wpList_nil ?_
 refine hK3 _ _ ?_
 clear hK3
 replace hA := hA.s5 24 5 4 2 1
 refine cond_d hA rfl (fun hnn => absurd hnn (by omega)) (fun _ => ?_)
 refine wp_skip ?_
 refine hK2 _ _ ?_
 clear hK2
 replace hA := hA.s4 5 4 2 1
 refine wp_seq_k fun K4 hK4 => ?_
 refine wp_region_lit ?_
 refine sl hA (lo_allocA hH ti132) rfl ?_
 clear hH; rintro _ w ⟨b_t6, rfl, hH⟩ a hA
 refine wpList_nil ?_
 refine hK4 _ _ ?_
 clear hK4
 refine wp_seq_k fun K5 hK5 => ?_
 refine wp_seq_k fun K6 hK6 => ?_
 refine wp_region_lit ?_
 refine mv hA fun a hA => ?_
 refine wpList_nil ?_
 refine hK6 _ _ ?_
 clear hK6
 refine wp_block ?_
 replace hH := HS.fold [_] [_, _] hH
 obtain ⟨NR7, hNR7, hH⟩ := hH
 refine wp_loop_ghost (fun gm a w => ∃ t : Nat, At 187 [(26, I t), (6, (.pointer (some ⟨b_t6, 0, none⟩))), (5, I 0), (4, (.pointer (some ⟨b_t4, 0, none⟩))), (2, (.pointer (some ⟨b_t2, 0, none⟩))), (1, v)] a ∧ HS [] w0 w ([[(b_t6, Obj.cells ((sched l t ++ List.replicate (64 - t) 0#32).map U32).toArray 132 (0, 0))], NR7]) ∧ (t ≤ 64) ∧ gm = 64 - t) (64 - (0)) ⟨0, hA.sub ⟨rfl, rfl, rfl, rfl, rfl, rfl, trivial⟩, hH, by omega, rfl⟩ ?_
 clear hA hH
 rintro gm a w ⟨t, hA, hH, ht, rfl⟩
 refine wp_seq_k fun K8 hK8 => ?_
 refine wp_region_lit ?_
 refine sq hA (q_lssI (n := 64) rfl rfl) rfl fun a hA => ?_
 refine wpList_nil ?_
 refine hK8 _ _ ?_
 clear hK8
 refine wp_seq_k fun K9 hK9 => ?_
 refine cond_d hA rfl (fun hc27 => ?_) (fun hc27 => ?_)
 ·skip
  refine wp_skip ?_
  refine hK9 _ _ ?_
  clear hK9
  refine wp_seq_k fun K10 hK10 => ?_
  refine wp_block ?_
  refine wp_seq_k fun K11 hK11 => ?_
  refine wp_region_lit ?_
  refine mv hA fun a hA => ?_
  refine asg hA fun a hA => ?_
  refine wpList_nil ?_
  refine hK11 _ _ ?_
  clear hK11
  refine wp_seq_k fun K12 hK12 => ?_
  refine wp_seq_k fun K13 hK13 => ?_
  refine wp_region_lit ?_
  refine mv hA fun a hA => ?_
  refine sq hA (q_lssI (n := 16) rfl rfl) rfl fun a hA => ?_
  refine wpList_nil ?_
  refine hK13 _ _ ?_
  clear hK13
  refine cond_d hA rfl (fun hc30 => ?_) (fun hc30 => ?_)
  ·skip
   refine wp_seq_k fun K14 hK14 => ?_
   refine wp_region_lit ?_
   refine mv hA fun a hA => ?_
   refine mv hA fun a hA => ?_
   refine mv hA fun a hA => ?_
   refine sq hA (q_mulI (m := 4) rfl rfl (by omega)) rfl fun a hA => ?_
   refine sl hA (lo_call fn89 rfl (word_any v l (4 * t) (hH.rd hr) (by omega) (by omega))) rfl ?_
   rintro _ w ⟨rfl, hC⟩ a hA
   replace hH := HS.call0 hH hC
   clear hC
   refine mv hA fun a hA => ?_
   refine sq hA (q_extract rfl rfl) rfl fun a hA => ?_
   refine sq hA (q_extract rfl rfl) rfl fun a hA => ?_
   refine sq hA (q_idxA1 (t) Tryd.underlying132 ti119 rfl rfl (by first | omega | rfl) (by first | omega | (simp; done) | (simp; omega) | (rw [List.length_map]; assumption) | assumption | rfl | (simp [*]; done) | (simp [*]; omega))) rfl fun a hA => ?_
   refine s0 hA (lo_store1m hH ti119 rfl rfl (by first | omega | (simp; done) | (simp; omega) | (rw [List.length_map]; assumption) | assumption | rfl | (simp [*]; done) | (simp [*]; omega)) rfl) ?_
   clear hH; rintro _ w hH
   refine wpList_nil ?_
   refine hK14 _ _ ?_
   clear hK14
   replace hA := hA.sub (E' := [(39, _), (37, _), (31, _), (36, _), (35, _), (34, _), (33, _), (32, _), (30, _), (29, _), (7, _), (28, _), (27, _), (26, _), (6, _), (5, _), (4, _), (2, _), (1, _)]) ⟨rfl, rfl, rfl, rfl, rfl, rfl, rfl, rfl, rfl, rfl, rfl, rfl, rfl, rfl, rfl, rfl, rfl, rfl, rfl, trivial⟩
   refine wp_exit ?_
   refine then_exit ?_
   refine exit_here ?_
   refine hK10 _ _ ?_
   clear hK10
   refine wp_region_lit ?_
   refine sq hA (q_addI (n := 1) rfl rfl (by omega)) rfl fun a hA => ?_
   refine mv hA fun a hA => ?_
   refine wpList_nil ?_
   exact ⟨_, by omega, t + 1, hA.sub ⟨rfl, rfl, rfl, rfl, rfl, rfl, trivial⟩, (by first | (rw [sch_set (by omega) _ (sch_one l (by omega))] at hH; exact hH) | (rw [sch_set (by omega) _ (sch_prog l (by omega))] at hH; exact hH)), by omega, rfl⟩
  ·skip
   refine wp_skip ?_
   refine hK12 _ _ ?_
   clear hK12
   refine wp_seq_k fun K15 hK15 => ?_
   refine any_go mixed (fun _ => true) hH ?_
   clear hH; intro w hH
   have hS := hH
   refine any_l 10 ?_
   refine p0 hA 0 1 rfl (fun w => (q_move rfl)) fun a hA => ?_
   refine p0 hA 1 3 rfl (fun w => (q_subI (n := 15) rfl rfl (by omega))) fun a hA => ?_
   refine p0 hA 2 7 rfl (fun w => (q_idxA1 (t - 15) Tryd.underlying132 ti119 rfl rfl (by first | omega | rfl) (by first | omega | (simp; done) | (simp; omega) | (rw [List.length_map]; assumption) | assumption | rfl | (simp [*]; done) | (simp [*]; omega)))) fun a hA => ?_
   refine r0 hA 3 15 rfl hS (fun w hH => (q_loadBm (0#32) hH 0 rfl Tryd.underlying119 rfl rfl (by first | omega | (simp; done) | (simp; omega) | (rw [List.length_map]; assumption) | assumption | rfl | (simp [*]; done) | (simp [*]; omega)))) fun a hA => ?_
   refine p0 hA 4 31 rfl (fun w => (q_move rfl)) fun a hA => ?_
   refine p0 hA 5 63 rfl (fun w => (q_subI (n := 2) rfl rfl (by omega))) fun a hA => ?_
   refine p0 hA 6 127 rfl (fun w => (q_idxA1 (t - 2) Tryd.underlying132 ti119 rfl rfl (by first | omega | rfl) (by first | omega | (simp; done) | (simp; omega) | (rw [List.length_map]; assumption) | assumption | rfl | (simp [*]; done) | (simp [*]; omega)))) fun a hA => ?_
   refine r0 hA 7 255 rfl hS (fun w hH => (q_loadBm (0#32) hH 0 rfl Tryd.underlying119 rfl rfl (by first | omega | (simp; done) | (simp; omega) | (rw [List.length_map]; assumption) | assumption | rfl | (simp [*]; done) | (simp [*]; omega)))) fun a hA => ?_
   refine p0 hA 8 511 rfl (fun w => (q_assign rfl)) fun a hA => ?_
   refine p0 hA 9 1023 rfl (fun w => (q_assign rfl)) fun a hA => ?_
   refine a_end (by kernel_rfl) ?_ _
   refine hK15 _ _ ?_
   clear hK15
   refine any_go mixed (fun j => !(Nat.beq j 29)) hH ?_
   clear hH; intro w hH
   have hS := hH
   refine any_l 30 ?_
   refine p0 hA 0 1 rfl (fun w => (q_move rfl)) fun a hA => ?_
   refine p0 hA 1 3 rfl (fun w => (q_move rfl)) fun a hA => ?_
   refine p0 hA 2 7 rfl (fun w => (q_subI (n := 16) rfl rfl (by omega))) fun a hA => ?_
   refine p0 hA 3 15 rfl (fun w => (q_idxA1 (t - 16) Tryd.underlying132 ti119 rfl rfl (by first | omega | rfl) (by first | omega | (simp; done) | (simp; omega) | (rw [List.length_map]; assumption) | assumption | rfl | (simp [*]; done) | (simp [*]; omega)))) fun a hA => ?_
   refine r0 hA 4 31 rfl hS (fun w hH => (q_loadBm (0#32) hH 0 rfl Tryd.underlying119 rfl rfl (by first | omega | (simp; done) | (simp; omega) | (rw [List.length_map]; assumption) | assumption | rfl | (simp [*]; done) | (simp [*]; omega)))) fun a hA => ?_
   refine p0 hA 5 63 rfl (fun w => (q_move rfl)) fun a hA => ?_
   refine p0 hA 6 127 rfl (fun w => (q_subI (n := 7) rfl rfl (by omega))) fun a hA => ?_
   refine p0 hA 7 255 rfl (fun w => (q_idxA1 (t - 7) Tryd.underlying132 ti119 rfl rfl (by first | omega | rfl) (by first | omega | (simp; done) | (simp; omega) | (rw [List.length_map]; assumption) | assumption | rfl | (simp [*]; done) | (simp [*]; omega)))) fun a hA => ?_
   refine r0 hA 8 511 rfl hS (fun w hH => (q_loadBm (0#32) hH 0 rfl Tryd.underlying119 rfl rfl (by first | omega | (simp; done) | (simp; omega) | (rw [List.length_map]; assumption) | assumption | rfl | (simp [*]; done) | (simp [*]; omega)))) fun a hA => ?_
   refine p0 hA 9 1023 rfl (fun w => (q_add32 rfl rfl)) fun a hA => ?_
   refine p0 hA 10 2047 rfl (fun w => (q_move rfl)) fun a hA => ?_
   refine p0 hA 12 6143 rfl (fun w => (q_move rfl)) fun a hA => ?_
   refine p0 hA 15 38911 rfl (fun w => (q_move rfl)) fun a hA => ?_
   refine p0 hA 16 104447 rfl (fun w => (q_shr32 (n := 3) rfl rfl)) fun a hA => ?_
   refine p0 hA 19 628735 rfl (fun w => (q_move rfl)) fun a hA => ?_
   refine p0 hA 21 2725887 rfl (fun w => (q_move rfl)) fun a hA => ?_
   refine p0 hA 24 19503103 rfl (fun w => (q_move rfl)) fun a hA => ?_
   refine p0 hA 25 53057535 rfl (fun w => (q_shr32 (n := 10) rfl rfl)) fun a hA => ?_
   refine a1 hA 11 53059583 rfl (lo_call fn90 rfl (rot_any _ 7 (by decide))) ?_
   rintro _ w ⟨rfl, hC⟩
   replace hH := HS.call0 hH hC
   clear hC
   replace hS := hH.pick [0, 1] (Hs' := [_, _]) rfl
   refine ⟨fun _ _ => hS, ?_⟩
   intro a hA
   refine a1 hA 13 53067775 rfl (lo_call fn90 rfl (rot_any _ 18 (by decide))) ?_
   rintro _ w ⟨rfl, hC⟩
   replace hH := HS.call0 hH hC
   clear hC
   replace hS := hH.pick [0, 1] (Hs' := [_, _]) rfl
   refine ⟨fun _ _ => hS, ?_⟩
   intro a hA
   refine p0 hA 14 53084159 rfl (fun w => (q_xor32 rfl rfl)) fun a hA => ?_
   refine p0 hA 17 53215231 rfl (fun w => (q_xor32 rfl rfl)) fun a hA => ?_
   refine p0 hA 18 53477375 rfl (fun w => (q_add32 rfl rfl)) fun a hA => ?_
   refine a1 hA 20 54525951 rfl (lo_call fn90 rfl (rot_any _ 17 (by decide))) ?_
   rintro _ w ⟨rfl, hC⟩
   replace hH := HS.call0 hH hC
   clear hC
   replace hS := hH.pick [0, 1] (Hs' := [_, _]) rfl
   refine ⟨fun _ _ => hS, ?_⟩
   intro a hA
   refine a1 hA 22 58720255 rfl (lo_call fn90 rfl (rot_any _ 19 (by decide))) ?_
   rintro _ w ⟨rfl, hC⟩
   replace hH := HS.call0 hH hC
   clear hC
   replace hS := hH.pick [0, 1] (Hs' := [_, _]) rfl
   refine ⟨fun _ _ => hS, ?_⟩
   intro a hA
   refine p0 hA 23 67108863 rfl (fun w => (q_xor32 rfl rfl)) fun a hA => ?_
   refine p0 hA 26 134217727 rfl (fun w => (q_xor32 rfl rfl)) fun a hA => ?_
   refine p0 hA 27 268435455 rfl (fun w => (q_add32 rfl rfl)) fun a hA => ?_
   refine p0 hA 28 536870911 rfl (fun w => (q_idxA1 (t) Tryd.underlying132 ti119 rfl rfl (by first | omega | rfl) (by first | omega | (simp; done) | (simp; omega) | (rw [List.length_map]; assumption) | assumption | rfl | (simp [*]; done) | (simp [*]; omega)))) fun a hA => ?_
   refine a0n hA 29 1073741823 rfl (lo_store1m hH ti119 rfl rfl (by first | omega | (simp; done) | (simp; omega) | (rw [List.length_map]; assumption) | assumption | rfl | (simp [*]; done) | (simp [*]; omega)) rfl) ?_
   clear hH; rintro _ w hH
   refine a_end (by kernel_rfl) ?_ _
   refine block_normal ?_
   refine hK10 _ _ ?_
   clear hK10
   refine wp_region_lit ?_
   refine sq hA (q_addI (n := 1) rfl rfl (by omega)) rfl fun a hA => ?_
   refine mv hA fun a hA => ?_
   refine wpList_nil ?_
   exact ⟨_, by omega, t + 1, hA.sub ⟨rfl, rfl, rfl, rfl, rfl, rfl, trivial⟩, (by first | (rw [sch_set (by omega) _ (sch_one l (by omega))] at hH; exact hH) | (rw [sch_set (by omega) _ (sch_prog l (by omega))] at hH; exact hH)), by omega, rfl⟩
 ·skip
  obtain rfl : t = 64 := by omega
  rw [sched_end] at hH
  refine wp_exit ?_
  refine then_exit ?_
  replace hH := HS.unfold [_] hNR7 hH
  refine then_exit ?_
  refine exit_here ?_
  refine hK5 _ _ ?_
  clear hK5
  replace hA := hA.s4 6 5 4 2
  refine wp_seq_k fun K16 hK16 => ?_
  refine any_go mixed (fun _ => true) hH ?_
  clear hH; intro w hH
  have hS := hH
  refine any_l 24 ?_
  refine p0 hA 0 1 rfl (fun w => (q_idxA1 (0) Tryd.underlying120 ti119 rfl rfl (rfl) (by first | omega | (simp; done) | (simp; omega) | (rw [List.length_map]; assumption) | assumption | rfl | (simp [*]; done) | (simp [*]; omega)))) fun a hA => ?_
  refine r0 hA 1 3 rfl hS (fun w hH => (q_loadBm (0#32) hH 2 rfl Tryd.underlying119 rfl rfl (by first | omega | (simp; done) | (simp; omega) | (rw [List.length_map]; assumption) | assumption | rfl | (simp [*]; done) | (simp [*]; omega)))) fun a hA => ?_
  refine p0 hA 2 7 rfl (fun w => (q_idxA1 (1) Tryd.underlying120 ti119 rfl rfl (rfl) (by first | omega | (simp; done) | (simp; omega) | (rw [List.length_map]; assumption) | assumption | rfl | (simp [*]; done) | (simp [*]; omega)))) fun a hA => ?_
  refine r0 hA 3 15 rfl hS (fun w hH => (q_loadBm (0#32) hH 2 rfl Tryd.underlying119 rfl rfl (by first | omega | (simp; done) | (simp; omega) | (rw [List.length_map]; assumption) | assumption | rfl | (simp [*]; done) | (simp [*]; omega)))) fun a hA => ?_
  refine p0 hA 4 31 rfl (fun w => (q_idxA1 (2) Tryd.underlying120 ti119 rfl rfl (rfl) (by first | omega | (simp; done) | (simp; omega) | (rw [List.length_map]; assumption) | assumption | rfl | (simp [*]; done) | (simp [*]; omega)))) fun a hA => ?_
  refine r0 hA 5 63 rfl hS (fun w hH => (q_loadBm (0#32) hH 2 rfl Tryd.underlying119 rfl rfl (by first | omega | (simp; done) | (simp; omega) | (rw [List.length_map]; assumption) | assumption | rfl | (simp [*]; done) | (simp [*]; omega)))) fun a hA => ?_
  refine p0 hA 6 127 rfl (fun w => (q_idxA1 (3) Tryd.underlying120 ti119 rfl rfl (rfl) (by first | omega | (simp; done) | (simp; omega) | (rw [List.length_map]; assumption) | assumption | rfl | (simp [*]; done) | (simp [*]; omega)))) fun a hA => ?_
  refine r0 hA 7 255 rfl hS (fun w hH => (q_loadBm (0#32) hH 2 rfl Tryd.underlying119 rfl rfl (by first | omega | (simp; done) | (simp; omega) | (rw [List.length_map]; assumption) | assumption | rfl | (simp [*]; done) | (simp [*]; omega)))) fun a hA => ?_
  refine p0 hA 8 511 rfl (fun w => (q_idxA1 (4) Tryd.underlying120 ti119 rfl rfl (rfl) (by first | omega | (simp; done) | (simp; omega) | (rw [List.length_map]; assumption) | assumption | rfl | (simp [*]; done) | (simp [*]; omega)))) fun a hA => ?_
  refine r0 hA 9 1023 rfl hS (fun w hH => (q_loadBm (0#32) hH 2 rfl Tryd.underlying119 rfl rfl (by first | omega | (simp; done) | (simp; omega) | (rw [List.length_map]; assumption) | assumption | rfl | (simp [*]; done) | (simp [*]; omega)))) fun a hA => ?_
  refine p0 hA 10 2047 rfl (fun w => (q_idxA1 (5) Tryd.underlying120 ti119 rfl rfl (rfl) (by first | omega | (simp; done) | (simp; omega) | (rw [List.length_map]; assumption) | assumption | rfl | (simp [*]; done) | (simp [*]; omega)))) fun a hA => ?_
  refine r0 hA 11 4095 rfl hS (fun w hH => (q_loadBm (0#32) hH 2 rfl Tryd.underlying119 rfl rfl (by first | omega | (simp; done) | (simp; omega) | (rw [List.length_map]; assumption) | assumption | rfl | (simp [*]; done) | (simp [*]; omega)))) fun a hA => ?_
  refine p0 hA 12 8191 rfl (fun w => (q_idxA1 (6) Tryd.underlying120 ti119 rfl rfl (rfl) (by first | omega | (simp; done) | (simp; omega) | (rw [List.length_map]; assumption) | assumption | rfl | (simp [*]; done) | (simp [*]; omega)))) fun a hA => ?_
  refine r0 hA 13 16383 rfl hS (fun w hH => (q_loadBm (0#32) hH 2 rfl Tryd.underlying119 rfl rfl (by first | omega | (simp; done) | (simp; omega) | (rw [List.length_map]; assumption) | assumption | rfl | (simp [*]; done) | (simp [*]; omega)))) fun a hA => ?_
  refine p0 hA 14 32767 rfl (fun w => (q_idxA1 (7) Tryd.underlying120 ti119 rfl rfl (rfl) (by first | omega | (simp; done) | (simp; omega) | (rw [List.length_map]; assumption) | assumption | rfl | (simp [*]; done) | (simp [*]; omega)))) fun a hA => ?_
  refine r0 hA 15 65535 rfl hS (fun w hH => (q_loadBm (0#32) hH 2 rfl Tryd.underlying119 rfl rfl (by first | omega | (simp; done) | (simp; omega) | (rw [List.length_map]; assumption) | assumption | rfl | (simp [*]; done) | (simp [*]; omega)))) fun a hA => ?_
  refine p0 hA 16 131071 rfl (fun w => (q_assign rfl)) fun a hA => ?_
  refine p0 hA 17 262143 rfl (fun w => (q_assign rfl)) fun a hA => ?_
  refine p0 hA 18 524287 rfl (fun w => (q_assign rfl)) fun a hA => ?_
  refine p0 hA 19 1048575 rfl (fun w => (q_assign rfl)) fun a hA => ?_
  refine p0 hA 20 2097151 rfl (fun w => (q_assign rfl)) fun a hA => ?_
  refine p0 hA 21 4194303 rfl (fun w => (q_assign rfl)) fun a hA => ?_
  refine p0 hA 22 8388607 rfl (fun w => (q_assign rfl)) fun a hA => ?_
  refine p0 hA 23 16777215 rfl (fun w => (q_assign rfl)) fun a hA => ?_
  refine a_end (by kernel_rfl) ?_ _
  refine hK16 _ _ ?_
  clear hK16
  replace hA := hA.s12 17 16 15 14 13 12 11 10 6 5 4 2
  refine wp_seq_k fun K17 hK17 => ?_
  refine wp_seq_k fun K18 hK18 => ?_
  refine wp_region_lit ?_
  refine sq hA (q_loadW hH 0 rfl Tryd.underlying132 rfl ti132 rfl (by first | omega | (simp; done) | (simp; omega) | (rw [List.length_map]; assumption) | assumption | rfl | (simp [*]; done) | (simp [*]; omega))) rfl fun a hA => ?_
  refine mv hA fun a hA => ?_
  refine wpList_nil ?_
  refine hK18 _ _ ?_
  clear hK18
  replace hA := hA.sub (E' := [(95, _), (94, _), (17, _), (16, _), (15, _), (14, _), (13, _), (12, _), (11, _), (10, _), (5, _), (4, _), (2, _)]) ⟨rfl, rfl, rfl, rfl, rfl, rfl, rfl, rfl, rfl, rfl, rfl, rfl, rfl, trivial⟩
  refine wp_block ?_
  replace hH := hH.pick [2, 0, 1] (Hs' := [_, _, _]) rfl
  replace hH := HS.fold [_] [_, _] hH
  obtain ⟨NR19, hNR19, hH⟩ := hH
  refine wp_loop_ghost (fun gm a w => ∃ i : Nat, ∃ st : St, At 187 [(95, I i), (94, (.agg ((sched l 64).map U32).toArray)), (17, U32 st.h), (16, U32 st.g), (15, U32 st.f), (14, U32 st.e), (13, U32 st.d), (12, U32 st.c), (11, U32 st.b), (10, U32 st.a), (5, I 0), (4, (.pointer (some ⟨b_t4, 0, none⟩))), (2, (.pointer (some ⟨b_t2, 0, none⟩)))] a ∧ HS [] w0 w ([[(b_t2, Obj.cells (s.map U32).toArray 120 (0, 0))], NR19]) ∧ (i ≤ 64) ∧ (st = rnds (sched l 64) (St.of s) i) ∧ gm = 64 - i) (64 - (0)) ⟨0, St.of s, hA.sub ⟨rfl, rfl, rfl, rfl, rfl, rfl, rfl, rfl, rfl, rfl, rfl, rfl, rfl, trivial⟩, hH, by omega, by rfl, rfl⟩ ?_
  clear hA hH
  rintro gm a w ⟨i, st, hA, hH, hi, hst, rfl⟩
  refine wp_seq_k fun K20 hK20 => ?_
  refine wp_region_lit ?_
  refine sq hA (q_lssI (n := 64) rfl rfl) rfl fun a hA => ?_
  refine wpList_nil ?_
  refine hK20 _ _ ?_
  clear hK20
  refine wp_seq_k fun K21 hK21 => ?_
  refine cond_d hA rfl (fun hc96 => ?_) (fun hc96 => ?_)
  ·skip
   refine wp_skip ?_
   refine hK21 _ _ ?_
   clear hK21
   refine wp_seq_k fun K22 hK22 => ?_
   refine wp_block ?_
   refine wp_seq_k fun K23 hK23 => ?_
   refine wp_region_lit ?_
   refine mv hA fun a hA => ?_
   refine sq hA (q_indexm (0#32) _ Tryd.underlying132 ti119 Tryd.underlying119 rfl rfl rfl (rfl) (by first | omega | (simp; done) | (simp; omega) | (rw [List.length_map]; assumption) | assumption | rfl | (simp [*]; done) | (simp [*]; omega)) (by first | omega | (simp; done) | (simp; omega) | (rw [List.length_map]; assumption) | assumption | rfl | (simp [*]; done) | (simp [*]; omega))) rfl fun a hA => ?_
   refine asg hA fun a hA => ?_
   refine asg hA fun a hA => ?_
   refine wpList_nil ?_
   refine hK23 _ _ ?_
   clear hK23
   refine wp_seq_k fun K24 hK24 => ?_
   refine any_go mixed (fun _ => true) hH ?_
   clear hH; intro w hH
   have hS := hH
   refine any_l 25 ?_
   refine p0 hA 0 1 rfl (fun w => (q_move rfl)) fun a hA => ?_
   refine p0 hA 1 3 rfl (fun w => (q_move rfl)) fun a hA => ?_
   refine p0 hA 3 11 rfl (fun w => (q_move rfl)) fun a hA => ?_
   refine p0 hA 6 75 rfl (fun w => (q_move rfl)) fun a hA => ?_
   refine p0 hA 10 1099 rfl (fun w => (q_move rfl)) fun a hA => ?_
   refine p0 hA 11 3147 rfl (fun w => (q_move rfl)) fun a hA => ?_
   refine p0 hA 12 7243 rfl (fun w => (q_move rfl)) fun a hA => ?_
   refine p0 hA 13 15435 rfl (fun w => (q_move rfl)) fun a hA => ?_
   refine p0 hA 14 31819 rfl (fun w => (q_xor32 rfl rfl)) fun a hA => ?_
   refine p0 hA 15 64587 rfl (fun w => (q_and32 rfl rfl)) fun a hA => ?_
   refine p0 hA 16 130123 rfl (fun w => (q_xor32 rfl rfl)) fun a hA => ?_
   refine p0 hA 18 392267 rfl (fun w => (q_move rfl)) fun a hA => ?_
   refine p0 hA 19 916555 rfl (fun w => (q_idxA1 (i) Tryd.underlying132 ti119 rfl rfl (by first | omega | rfl) (by first | omega | (simp; done) | (simp; omega) | (rw [List.length_map]; assumption) | assumption | rfl | (simp [*]; done) | (simp [*]; omega)))) fun a hA => ?_
   refine r0 hA 20 1965131 rfl hS (fun w hH => (q_loadGm (0#32) (Gl.k (hg.mono hH NG.nil)) Tryd.underlying119 rfl rfl (by first | omega | (simp; done) | (simp; omega) | (rw [List.length_map]; assumption) | assumption | rfl | (simp [*]; done) | (simp [*]; omega)))) fun a hA => ?_
   refine p0 hA 22 6159435 rfl (fun w => (q_move rfl)) fun a hA => ?_
   refine a1 hA 2 6159439 rfl (lo_call fn90 rfl (rot_any _ 6 (by decide))) ?_
   rintro _ w ⟨rfl, hC⟩
   replace hH := HS.call0 hH hC
   clear hC
   replace hS := hH.pick [0, 1] (Hs' := [_, _]) rfl
   refine ⟨fun _ _ => hS, ?_⟩
   intro a hA
   refine a1 hA 4 6159455 rfl (lo_call fn90 rfl (rot_any _ 11 (by decide))) ?_
   rintro _ w ⟨rfl, hC⟩
   replace hH := HS.call0 hH hC
   clear hC
   replace hS := hH.pick [0, 1] (Hs' := [_, _]) rfl
   refine ⟨fun _ _ => hS, ?_⟩
   intro a hA
   refine p0 hA 5 6159487 rfl (fun w => (q_xor32 rfl rfl)) fun a hA => ?_
   refine a1 hA 7 6159615 rfl (lo_call fn90 rfl (rot_any _ 25 (by decide))) ?_
   rintro _ w ⟨rfl, hC⟩
   replace hH := HS.call0 hH hC
   clear hC
   replace hS := hH.pick [0, 1] (Hs' := [_, _]) rfl
   refine ⟨fun _ _ => hS, ?_⟩
   intro a hA
   refine p0 hA 8 6159871 rfl (fun w => (q_xor32 rfl rfl)) fun a hA => ?_
   refine p0 hA 9 6160383 rfl (fun w => (q_add32 rfl rfl)) fun a hA => ?_
   refine p0 hA 17 6291455 rfl (fun w => (q_add32 rfl rfl)) fun a hA => ?_
   refine p0 hA 21 8388607 rfl (fun w => (q_add32 rfl rfl)) fun a hA => ?_
   refine p0 hA 23 16777215 rfl (fun w => (q_add32 rfl rfl)) fun a hA => ?_
   refine p0 hA 24 33554431 rfl (fun w => (q_assign rfl)) fun a hA => ?_
   rw [ch_prog] at hA
   refine a_end (by kernel_rfl) ?_ _
   refine hK24 _ _ ?_
   clear hK24
   refine wp_seq_k fun K25 hK25 => ?_
   refine wp_region_lit ?_
   refine mv hA fun a hA => ?_
   refine sl hA (lo_call fn90 rfl (rot_any _ 2 (by decide))) rfl ?_
   rintro _ w ⟨rfl, hC⟩ a hA
   replace hH := HS.call0 hH hC
   clear hC
   refine mv hA fun a hA => ?_
   refine sl hA (lo_call fn90 rfl (rot_any _ 13 (by decide))) rfl ?_
   rintro _ w ⟨rfl, hC⟩ a hA
   replace hH := HS.call0 hH hC
   clear hC
   refine sq hA (q_xor32 rfl rfl) rfl fun a hA => ?_
   refine mv hA fun a hA => ?_
   refine sl hA (lo_call fn90 rfl (rot_any _ 22 (by decide))) rfl ?_
   rintro _ w ⟨rfl, hC⟩ a hA
   replace hH := HS.call0 hH hC
   clear hC
   refine sq hA (q_xor32 rfl rfl) rfl fun a hA => ?_
   refine mv hA fun a hA => ?_
   refine mv hA fun a hA => ?_
   refine sq hA (q_and32 rfl rfl) rfl fun a hA => ?_
   refine mv hA fun a hA => ?_
   refine mv hA fun a hA => ?_
   refine mv hA fun a hA => ?_
   refine sq hA (q_or32 rfl rfl) rfl fun a hA => ?_
   refine sq hA (q_and32 rfl rfl) rfl fun a hA => ?_
   refine sq hA (q_or32 rfl rfl) rfl fun a hA => ?_
   refine sq hA (q_add32 rfl rfl) rfl fun a hA => ?_
   refine asg hA fun a hA => ?_
   rw [maj_prog] at hA
   refine wpList_nil ?_
   refine hK25 _ _ ?_
   clear hK25
   refine wp_region_lit ?_
   refine mv hA fun a hA => ?_
   refine mv hA fun a hA => ?_
   refine sq hA (q_add32 rfl rfl) rfl fun a hA => ?_
   refine mv hA fun a hA => ?_
   refine mv hA fun a hA => ?_
   refine mv hA fun a hA => ?_
   refine mv hA fun a hA => ?_
   refine mv hA fun a hA => ?_
   refine sq hA (q_add32 rfl rfl) rfl fun a hA => ?_
   refine mv hA fun a hA => ?_
   refine mv hA fun a hA => ?_
   refine mv hA fun a hA => ?_
   refine asg hA fun a hA => ?_
   refine asg hA fun a hA => ?_
   refine asg hA fun a hA => ?_
   refine asg hA fun a hA => ?_
   refine asg hA fun a hA => ?_
   refine asg hA fun a hA => ?_
   refine asg hA fun a hA => ?_
   refine asg hA fun a hA => ?_
   refine wpList_nil ?_
   refine block_normal ?_
   refine hK22 _ _ ?_
   clear hK22
   refine wp_region_lit ?_
   refine sq hA (q_addI (n := 1) rfl rfl (by omega)) rfl fun a hA => ?_
   refine mv hA fun a hA => ?_
   refine wpList_nil ?_
   exact ⟨_, by omega, i + 1, rnd st (kTab.getD i 0#32) ((sched l 64).getD i 0#32), hA.sub ⟨rfl, rfl, rfl, rfl, rfl, rfl, rfl, rfl, rfl, rfl, rfl, rfl, rfl, trivial⟩, hH, by omega, by (rw [hst]; rfl), rfl⟩
  ·skip
   refine wp_exit ?_
   refine then_exit ?_
   replace hH := HS.unfold [_] hNR19 hH
   refine then_exit ?_
   refine exit_here ?_
   refine hK17 _ _ ?_
   clear hK17
   replace hA := hA.s11 17 16 15 14 13 12 11 10 5 4 2
   refine wp_seq_k fun K26 hK26 => ?_
   refine wp_region_lit ?_
   refine sq hA (q_idxA1 (0) Tryd.underlying120 ti119 rfl rfl (rfl) (by first | omega | (simp; done) | (simp; omega) | (rw [List.length_map]; assumption) | assumption | rfl | (simp [*]; done) | (simp [*]; omega))) rfl fun a hA => ?_
   refine sq hA (q_loadBm (0#32) hH 0 rfl Tryd.underlying119 rfl rfl (by first | omega | (simp; done) | (simp; omega) | (rw [List.length_map]; assumption) | assumption | rfl | (simp [*]; done) | (simp [*]; omega))) rfl fun a hA => ?_
   refine mv hA fun a hA => ?_
   refine sq hA (q_add32 rfl rfl) rfl fun a hA => ?_
   refine sq hA (q_idxA1 (1) Tryd.underlying120 ti119 rfl rfl (rfl) (by first | omega | (simp; done) | (simp; omega) | (rw [List.length_map]; assumption) | assumption | rfl | (simp [*]; done) | (simp [*]; omega))) rfl fun a hA => ?_
   refine sq hA (q_loadBm (0#32) hH 0 rfl Tryd.underlying119 rfl rfl (by first | omega | (simp; done) | (simp; omega) | (rw [List.length_map]; assumption) | assumption | rfl | (simp [*]; done) | (simp [*]; omega))) rfl fun a hA => ?_
   refine mv hA fun a hA => ?_
   refine sq hA (q_add32 rfl rfl) rfl fun a hA => ?_
   refine sq hA (q_idxA1 (2) Tryd.underlying120 ti119 rfl rfl (rfl) (by first | omega | (simp; done) | (simp; omega) | (rw [List.length_map]; assumption) | assumption | rfl | (simp [*]; done) | (simp [*]; omega))) rfl fun a hA => ?_
   refine sq hA (q_loadBm (0#32) hH 0 rfl Tryd.underlying119 rfl rfl (by first | omega | (simp; done) | (simp; omega) | (rw [List.length_map]; assumption) | assumption | rfl | (simp [*]; done) | (simp [*]; omega))) rfl fun a hA => ?_
   refine mv hA fun a hA => ?_
   refine sq hA (q_add32 rfl rfl) rfl fun a hA => ?_
   refine sq hA (q_idxA1 (3) Tryd.underlying120 ti119 rfl rfl (rfl) (by first | omega | (simp; done) | (simp; omega) | (rw [List.length_map]; assumption) | assumption | rfl | (simp [*]; done) | (simp [*]; omega))) rfl fun a hA => ?_
   refine sq hA (q_loadBm (0#32) hH 0 rfl Tryd.underlying119 rfl rfl (by first | omega | (simp; done) | (simp; omega) | (rw [List.length_map]; assumption) | assumption | rfl | (simp [*]; done) | (simp [*]; omega))) rfl fun a hA => ?_
   refine mv hA fun a hA => ?_
   refine sq hA (q_add32 rfl rfl) rfl fun a hA => ?_
   refine sq hA (q_idxA1 (4) Tryd.underlying120 ti119 rfl rfl (rfl) (by first | omega | (simp; done) | (simp; omega) | (rw [List.length_map]; assumption) | assumption | rfl | (simp [*]; done) | (simp [*]; omega))) rfl fun a hA => ?_
   refine sq hA (q_loadBm (0#32) hH 0 rfl Tryd.underlying119 rfl rfl (by first | omega | (simp; done) | (simp; omega) | (rw [List.length_map]; assumption) | assumption | rfl | (simp [*]; done) | (simp [*]; omega))) rfl fun a hA => ?_
   refine mv hA fun a hA => ?_
   refine sq hA (q_add32 rfl rfl) rfl fun a hA => ?_
   refine sq hA (q_idxA1 (5) Tryd.underlying120 ti119 rfl rfl (rfl) (by first | omega | (simp; done) | (simp; omega) | (rw [List.length_map]; assumption) | assumption | rfl | (simp [*]; done) | (simp [*]; omega))) rfl fun a hA => ?_
   refine sq hA (q_loadBm (0#32) hH 0 rfl Tryd.underlying119 rfl rfl (by first | omega | (simp; done) | (simp; omega) | (rw [List.length_map]; assumption) | assumption | rfl | (simp [*]; done) | (simp [*]; omega))) rfl fun a hA => ?_
   refine mv hA fun a hA => ?_
   refine sq hA (q_add32 rfl rfl) rfl fun a hA => ?_
   refine sq hA (q_idxA1 (6) Tryd.underlying120 ti119 rfl rfl (rfl) (by first | omega | (simp; done) | (simp; omega) | (rw [List.length_map]; assumption) | assumption | rfl | (simp [*]; done) | (simp [*]; omega))) rfl fun a hA => ?_
   refine sq hA (q_loadBm (0#32) hH 0 rfl Tryd.underlying119 rfl rfl (by first | omega | (simp; done) | (simp; omega) | (rw [List.length_map]; assumption) | assumption | rfl | (simp [*]; done) | (simp [*]; omega))) rfl fun a hA => ?_
   refine mv hA fun a hA => ?_
   refine sq hA (q_add32 rfl rfl) rfl fun a hA => ?_
   refine sq hA (q_idxA1 (7) Tryd.underlying120 ti119 rfl rfl (rfl) (by first | omega | (simp; done) | (simp; omega) | (rw [List.length_map]; assumption) | assumption | rfl | (simp [*]; done) | (simp [*]; omega))) rfl fun a hA => ?_
   refine sq hA (q_loadBm (0#32) hH 0 rfl Tryd.underlying119 rfl rfl (by first | omega | (simp; done) | (simp; omega) | (rw [List.length_map]; assumption) | assumption | rfl | (simp [*]; done) | (simp [*]; omega))) rfl fun a hA => ?_
   refine mv hA fun a hA => ?_
   refine sq hA (q_add32 rfl rfl) rfl fun a hA => ?_
   refine sq hA (q_build (v := .agg ((addAll s st : List _).map U32).toArray) rfl (fun w => by kernel_rfl)) rfl fun a hA => ?_
   replace hH := hH.pick [2, 0, 1] (Hs' := [_, _, _]) rfl
   refine s0 hA (lo_storeAm hH ti120 rfl rfl (by first | rfl | (simp; done)) (by first | rfl | (simp; done)) (one_U32 _)) ?_
   clear hH; rintro _ w hH
   refine asg hA fun a hA => ?_
   refine wpList_nil ?_
   refine hK26 _ _ ?_
   clear hK26
   replace hA := hA.s2 5 4
   refine wp_ret ?_
   refine post_ret hA (res_c1 rfl hA rfl rfl (resW hH 0 rfl Tryd.underlying120 rfl ti120 (by first | assumption | (rw [List.length_map]; assumption) | rfl | exact sha_length _ | (simp; done) | (simp [*]; done) | omega))) ?_
   replace hH := hH.pick [] (Hs' := []) rfl
   have : i = 64 := by omega
   subst this; subst hst
   exact ⟨_, rfl, rfl, hH⟩

end Go.Proofs.YthhdilafnfcpbaaDoor
