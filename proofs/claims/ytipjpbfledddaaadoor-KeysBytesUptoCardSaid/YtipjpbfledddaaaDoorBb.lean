/- Layer 2 (sha): a block. -/
import Derived.Test.YtipjpbfledddaaaDoorTa
import Derived.Test.YtipjpbfledddaaaDoorTb
import Derived.Test.YtipjpbfledddaaaDoorLl
import Derived.Test.YtipjpbfledddaaaDoorMa
import Derived.Test.YtipjpbfledddaaaDoorMb
import Derived.Test.YtipjpbfledddaaaDoorBa
namespace Go.Proofs.YtipjpbfledddaaaDoor
open Go
set_option linter.unusedVariables false
set_option linter.unusedSimpArgs false
set_option maxRecDepth 100000

set_option maxHeartbeats 1000000 in
theorem block_any {w0 : World} {lv : Nat} (hg : Gl lv w0) (s : List W) (v : Value) (l : List (BitVec 8)) (hs : s.length = 8) (hr : By [] w0 v l) (hl : l.length = 64) :
    Calls Tryd.prog 98 #[(.agg (s.map U32).toArray), v] w0 (Ret fun r w' => r = .tuple #[.agg ((blk s l).map U32).toArray, I 0] ∧ HS [] w0 w' []) := by
  have hH := HS.start w0
  refine start (n := 187) (E := [(0, _), (1, _)]) Tryd.func98 rfl rfl rfl (args_look rfl) ?_
  intro a hA
  refine wp_seq_k fun K1 hK1 => ?_
  refine wp_region_lit ?_
  refine sl hA (lo_boxA hH rfl) rfl ?_
  clear hH; rintro _ w ⟨b_t2, rfl, hH⟩ a hA
  refine sl hA (lo_allocA hH ti137) rfl ?_
  clear hH; rintro _ w ⟨b_t4, rfl, hH⟩ a hA
  refine sq hA (q_assign rfl) rfl fun a hA => ?_
  refine wpList_nil ?_
  refine hK1 _ _ ?_
  clear hK1
  replace hA := hA.sub (E' := [(5, _), (4, _), (2, _), (1, _)]) ⟨rfl, rfl, rfl, rfl, trivial⟩
  refine wp_seq_k fun K2 hK2 => ?_
  refine wp_seq_k fun K3 hK3 => ?_
  refine wp_region_lit ?_
  refine sq hA (q_move rfl) rfl fun a hA => ?_
  refine sq hA (q_len Tryd.underlying24 rfl (Rd.shp hr)) rfl fun a hA => ?_
  refine sq hA (q_neqI (n := 64) rfl rfl) rfl fun a hA => ?_
  refine wpList_nil ?_
  refine hK3 _ _ ?_
  clear hK3
  replace hA := hA.sub (E' := [(24, _), (5, _), (4, _), (2, _), (1, _)]) ⟨rfl, rfl, rfl, rfl, rfl, trivial⟩
  refine cond_d hA rfl (fun hnn => absurd hnn (by omega)) (fun _ => ?_)
  refine wp_skip ?_
  refine hK2 _ _ ?_
  clear hK2
  replace hA := hA.sub (E' := [(5, _), (4, _), (2, _), (1, _)]) ⟨rfl, rfl, rfl, rfl, trivial⟩
  refine wp_seq_k fun K4 hK4 => ?_
  refine wp_region_lit ?_
  refine sl hA (lo_allocA hH ti146) rfl ?_
  clear hH; rintro _ w ⟨b_t6, rfl, hH⟩ a hA
  refine wpList_nil ?_
  refine hK4 _ _ ?_
  clear hK4
  refine wp_seq_k fun K5 hK5 => ?_
  refine wp_seq_k fun K6 hK6 => ?_
  refine wp_region_lit ?_
  refine sq hA (q_move rfl) rfl fun a hA => ?_
  refine wpList_nil ?_
  refine hK6 _ _ ?_
  clear hK6
  refine wp_block ?_
  replace hH := HS.fold [_] [_, _] hH
  obtain ⟨NR7, hNR7, hH⟩ := hH
  refine wp_loop_ghost (fun gm a w => ∃ t : Nat, At 187 [(26, I t), (6, (.pointer (some ⟨b_t6, 0, none⟩))), (5, I 0), (4, (.pointer (some ⟨b_t4, 0, none⟩))), (2, (.pointer (some ⟨b_t2, 0, none⟩))), (1, v)] a ∧ HS [] w0 w ([[(b_t6, Obj.cells ((sched l t ++ List.replicate (64 - t) 0#32).map U32).toArray 146 (0, 0))], NR7]) ∧ (t ≤ 64) ∧ gm = 64 - t) (64 - (0)) ⟨0, hA.sub ⟨rfl, rfl, rfl, rfl, rfl, rfl, trivial⟩, hH, by omega, rfl⟩ ?_
  clear hA hH
  rintro gm a w ⟨t, hA, hH, ht, rfl⟩
  refine wp_seq_k fun K8 hK8 => ?_
  refine wp_region_lit ?_
  refine sq hA (q_lssI (n := 64) rfl rfl) rfl fun a hA => ?_
  refine wpList_nil ?_
  refine hK8 _ _ ?_
  clear hK8
  refine wp_seq_k fun K9 hK9 => ?_
  refine cond_d hA rfl (fun hc27 => ?_) (fun hc27 => ?_)
  · skip
    refine wp_skip ?_
    refine hK9 _ _ ?_
    clear hK9
    refine wp_seq_k fun K10 hK10 => ?_
    refine wp_block ?_
    refine wp_seq_k fun K11 hK11 => ?_
    refine wp_region_lit ?_
    refine sq hA (q_move rfl) rfl fun a hA => ?_
    refine sq hA (q_assign rfl) rfl fun a hA => ?_
    refine wpList_nil ?_
    refine hK11 _ _ ?_
    clear hK11
    refine wp_seq_k fun K12 hK12 => ?_
    refine wp_seq_k fun K13 hK13 => ?_
    refine wp_region_lit ?_
    refine sq hA (q_move rfl) rfl fun a hA => ?_
    refine sq hA (q_lssI (n := 16) rfl rfl) rfl fun a hA => ?_
    refine wpList_nil ?_
    refine hK13 _ _ ?_
    clear hK13
    refine cond_d hA rfl (fun hc30 => ?_) (fun hc30 => ?_)
    · skip
      refine wp_seq_k fun K14 hK14 => ?_
      refine wp_region_lit ?_
      refine sq hA (q_move rfl) rfl fun a hA => ?_
      refine sq hA (q_move rfl) rfl fun a hA => ?_
      refine sq hA (q_move rfl) rfl fun a hA => ?_
      refine sq hA (q_mulI (m := 4) rfl rfl (by omega)) rfl fun a hA => ?_
      refine sl hA (lo_call fn104 rfl (word_any v l (4 * t) (hH.rd hr) (by omega) (by omega))) rfl ?_
      rintro _ w ⟨rfl, hC⟩ a hA
      replace hH := HS.call0 hH hC
      clear hC
      refine sq hA (q_move rfl) rfl fun a hA => ?_
      refine sq hA (q_extract rfl rfl) rfl fun a hA => ?_
      refine sq hA (q_extract rfl rfl) rfl fun a hA => ?_
      refine sq hA (q_idxA1 (t) Tryd.underlying146 ti136 rfl rfl (by first | omega | rfl) (by first | omega | (simp; done) | (simp; omega) | (rw [List.length_map]; assumption) | assumption | rfl | (simp [*]; done) | (simp [*]; omega))) rfl fun a hA => ?_
      refine s0 hA (lo_store1m hH ti136 rfl rfl (by first | omega | (simp; done) | (simp; omega) | (rw [List.length_map]; assumption) | assumption | rfl | (simp [*]; done) | (simp [*]; omega)) rfl) ?_
      clear hH; rintro _ w hH
      refine wpList_nil ?_
      refine hK14 _ _ ?_
      clear hK14
      replace hA := hA.sub (E' := [(39, _), (37, _), (31, _), (36, _), (35, _), (34, _), (33, _), (32, _), (30, _), (29, _), (7, _), (28, _), (27, _), (26, _), (6, _), (5, _), (4, _), (2, _), (1, _)]) ⟨rfl, rfl, rfl, rfl, rfl, rfl, rfl, rfl, rfl, rfl, rfl, rfl, rfl, rfl, rfl, rfl, rfl, rfl, rfl, trivial⟩
      refine wp_exit ?_
      refine then_exit ?_
      refine exit_here ?_
      refine hK10 _ _ ?_
      clear hK10
      refine wp_region_lit ?_
      refine sq hA (q_addI (n := 1) rfl rfl (by omega)) rfl fun a hA => ?_
      refine sq hA (q_move rfl) rfl fun a hA => ?_
      refine wpList_nil ?_
      exact ⟨_, by omega, t + 1, hA.sub ⟨rfl, rfl, rfl, rfl, rfl, rfl, trivial⟩, (by first | (rw [sch_set (by omega) _ (sch_one l (by omega))] at hH; exact hH) | (rw [sch_set (by omega) _ (sch_prog l (by omega))] at hH; exact hH)), by omega, rfl⟩
    · skip
      refine wp_skip ?_
      refine hK12 _ _ ?_
      clear hK12
      refine wp_seq_k fun K15 hK15 => ?_
      refine any_go mixed (fun _ => true) hH ?_
      clear hH; intro w hH
      have hS := hH
      change wpK _ _ _ _ _ _ 10 #[false, false, false, false, false, false, false, false, false, false] _ _
      refine apq hA 0 rfl (by kernel_rfl) (by intro c a d v w h; cases d <;> exact h) (fun w => (q_move rfl)) rfl (listed' := #[true, false, false, false, false, false, false, false, false, false]) rfl fun a hA => ?_
      refine apq hA 1 rfl (by kernel_rfl) (by intro c a d v w h; cases d <;> exact h) (fun w => (q_subI (n := 15) rfl rfl (by omega))) rfl (listed' := #[true, true, false, false, false, false, false, false, false, false]) rfl fun a hA => ?_
      refine apq hA 2 rfl (by kernel_rfl) (by intro c a d v w h; cases d <;> exact h) (fun w => (q_idxA1 (t - 15) Tryd.underlying146 ti136 rfl rfl (by first | omega | rfl) (by first | omega | (simp; done) | (simp; omega) | (rw [List.length_map]; assumption) | assumption | rfl | (simp [*]; done) | (simp [*]; omega)))) rfl (listed' := #[true, true, true, false, false, false, false, false, false, false]) rfl fun a hA => ?_
      refine aq hA 3 rfl (by kernel_rfl) (by intro c a d v w h; cases d <;> exact h) hS (fun w hH => (q_loadBm (0#32) hH 0 rfl Tryd.underlying136 rfl rfl (by first | omega | (simp; done) | (simp; omega) | (rw [List.length_map]; assumption) | assumption | rfl | (simp [*]; done) | (simp [*]; omega)))) rfl (listed' := #[true, true, true, true, false, false, false, false, false, false]) rfl fun a hA => ?_
      refine apq hA 4 rfl (by kernel_rfl) (by intro c a d v w h; cases d <;> exact h) (fun w => (q_move rfl)) rfl (listed' := #[true, true, true, true, true, false, false, false, false, false]) rfl fun a hA => ?_
      refine apq hA 5 rfl (by kernel_rfl) (by intro c a d v w h; cases d <;> exact h) (fun w => (q_subI (n := 2) rfl rfl (by omega))) rfl (listed' := #[true, true, true, true, true, true, false, false, false, false]) rfl fun a hA => ?_
      refine apq hA 6 rfl (by kernel_rfl) (by intro c a d v w h; cases d <;> exact h) (fun w => (q_idxA1 (t - 2) Tryd.underlying146 ti136 rfl rfl (by first | omega | rfl) (by first | omega | (simp; done) | (simp; omega) | (rw [List.length_map]; assumption) | assumption | rfl | (simp [*]; done) | (simp [*]; omega)))) rfl (listed' := #[true, true, true, true, true, true, true, false, false, false]) rfl fun a hA => ?_
      refine aq hA 7 rfl (by kernel_rfl) (by intro c a d v w h; cases d <;> exact h) hS (fun w hH => (q_loadBm (0#32) hH 0 rfl Tryd.underlying136 rfl rfl (by first | omega | (simp; done) | (simp; omega) | (rw [List.length_map]; assumption) | assumption | rfl | (simp [*]; done) | (simp [*]; omega)))) rfl (listed' := #[true, true, true, true, true, true, true, true, false, false]) rfl fun a hA => ?_
      refine apq hA 8 rfl (by kernel_rfl) (by intro c a d v w h; cases d <;> exact h) (fun w => (q_assign rfl)) rfl (listed' := #[true, true, true, true, true, true, true, true, true, false]) rfl fun a hA => ?_
      refine apq hA 9 rfl (by kernel_rfl) (by intro c a d v w h; cases d <;> exact h) (fun w => (q_assign rfl)) rfl (listed' := #[true, true, true, true, true, true, true, true, true, true]) rfl fun a hA => ?_
      refine a_end (by kernel_rfl) ?_ _
      refine hK15 _ _ ?_
      clear hK15
      refine any_go mixed (fun j => !(Nat.beq j 29)) hH ?_
      clear hH; intro w hH
      have hS := hH
      change wpK _ _ _ _ _ _ 30 #[false, false, false, false, false, false, false, false, false, false, false, false, false, false, false, false, false, false, false, false, false, false, false, false, false, false, false, false, false, false] _ _
      refine apq hA 0 rfl (by kernel_rfl) (by intro c a d v w h; cases d <;> exact h) (fun w => (q_move rfl)) rfl (listed' := #[true, false, false, false, false, false, false, false, false, false, false, false, false, false, false, false, false, false, false, false, false, false, false, false, false, false, false, false, false, false]) rfl fun a hA => ?_
      refine apq hA 1 rfl (by kernel_rfl) (by intro c a d v w h; cases d <;> exact h) (fun w => (q_move rfl)) rfl (listed' := #[true, true, false, false, false, false, false, false, false, false, false, false, false, false, false, false, false, false, false, false, false, false, false, false, false, false, false, false, false, false]) rfl fun a hA => ?_
      refine apq hA 2 rfl (by kernel_rfl) (by intro c a d v w h; cases d <;> exact h) (fun w => (q_subI (n := 16) rfl rfl (by omega))) rfl (listed' := #[true, true, true, false, false, false, false, false, false, false, false, false, false, false, false, false, false, false, false, false, false, false, false, false, false, false, false, false, false, false]) rfl fun a hA => ?_
      refine apq hA 3 rfl (by kernel_rfl) (by intro c a d v w h; cases d <;> exact h) (fun w => (q_idxA1 (t - 16) Tryd.underlying146 ti136 rfl rfl (by first | omega | rfl) (by first | omega | (simp; done) | (simp; omega) | (rw [List.length_map]; assumption) | assumption | rfl | (simp [*]; done) | (simp [*]; omega)))) rfl (listed' := #[true, true, true, true, false, false, false, false, false, false, false, false, false, false, false, false, false, false, false, false, false, false, false, false, false, false, false, false, false, false]) rfl fun a hA => ?_
      refine aq hA 4 rfl (by kernel_rfl) (by intro c a d v w h; cases d <;> exact h) hS (fun w hH => (q_loadBm (0#32) hH 0 rfl Tryd.underlying136 rfl rfl (by first | omega | (simp; done) | (simp; omega) | (rw [List.length_map]; assumption) | assumption | rfl | (simp [*]; done) | (simp [*]; omega)))) rfl (listed' := #[true, true, true, true, true, false, false, false, false, false, false, false, false, false, false, false, false, false, false, false, false, false, false, false, false, false, false, false, false, false]) rfl fun a hA => ?_
      refine apq hA 5 rfl (by kernel_rfl) (by intro c a d v w h; cases d <;> exact h) (fun w => (q_move rfl)) rfl (listed' := #[true, true, true, true, true, true, false, false, false, false, false, false, false, false, false, false, false, false, false, false, false, false, false, false, false, false, false, false, false, false]) rfl fun a hA => ?_
      refine apq hA 6 rfl (by kernel_rfl) (by intro c a d v w h; cases d <;> exact h) (fun w => (q_subI (n := 7) rfl rfl (by omega))) rfl (listed' := #[true, true, true, true, true, true, true, false, false, false, false, false, false, false, false, false, false, false, false, false, false, false, false, false, false, false, false, false, false, false]) rfl fun a hA => ?_
      refine apq hA 7 rfl (by kernel_rfl) (by intro c a d v w h; cases d <;> exact h) (fun w => (q_idxA1 (t - 7) Tryd.underlying146 ti136 rfl rfl (by first | omega | rfl) (by first | omega | (simp; done) | (simp; omega) | (rw [List.length_map]; assumption) | assumption | rfl | (simp [*]; done) | (simp [*]; omega)))) rfl (listed' := #[true, true, true, true, true, true, true, true, false, false, false, false, false, false, false, false, false, false, false, false, false, false, false, false, false, false, false, false, false, false]) rfl fun a hA => ?_
      refine aq hA 8 rfl (by kernel_rfl) (by intro c a d v w h; cases d <;> exact h) hS (fun w hH => (q_loadBm (0#32) hH 0 rfl Tryd.underlying136 rfl rfl (by first | omega | (simp; done) | (simp; omega) | (rw [List.length_map]; assumption) | assumption | rfl | (simp [*]; done) | (simp [*]; omega)))) rfl (listed' := #[true, true, true, true, true, true, true, true, true, false, false, false, false, false, false, false, false, false, false, false, false, false, false, false, false, false, false, false, false, false]) rfl fun a hA => ?_
      refine apq hA 9 rfl (by kernel_rfl) (by intro c a d v w h; cases d <;> exact h) (fun w => (q_add32 rfl rfl)) rfl (listed' := #[true, true, true, true, true, true, true, true, true, true, false, false, false, false, false, false, false, false, false, false, false, false, false, false, false, false, false, false, false, false]) rfl fun a hA => ?_
      refine apq hA 10 rfl (by kernel_rfl) (by intro c a d v w h; cases d <;> exact h) (fun w => (q_move rfl)) rfl (listed' := #[true, true, true, true, true, true, true, true, true, true, true, false, false, false, false, false, false, false, false, false, false, false, false, false, false, false, false, false, false, false]) rfl fun a hA => ?_
      refine apq hA 12 rfl (by kernel_rfl) (by intro c a d v w h; cases d <;> exact h) (fun w => (q_move rfl)) rfl (listed' := #[true, true, true, true, true, true, true, true, true, true, true, false, true, false, false, false, false, false, false, false, false, false, false, false, false, false, false, false, false, false]) rfl fun a hA => ?_
      refine apq hA 15 rfl (by kernel_rfl) (by intro c a d v w h; cases d <;> exact h) (fun w => (q_move rfl)) rfl (listed' := #[true, true, true, true, true, true, true, true, true, true, true, false, true, false, false, true, false, false, false, false, false, false, false, false, false, false, false, false, false, false]) rfl fun a hA => ?_
      refine apq hA 16 rfl (by kernel_rfl) (by intro c a d v w h; cases d <;> exact h) (fun w => (q_shr32 (n := 3) rfl rfl)) rfl (listed' := #[true, true, true, true, true, true, true, true, true, true, true, false, true, false, false, true, true, false, false, false, false, false, false, false, false, false, false, false, false, false]) rfl fun a hA => ?_
      refine apq hA 19 rfl (by kernel_rfl) (by intro c a d v w h; cases d <;> exact h) (fun w => (q_move rfl)) rfl (listed' := #[true, true, true, true, true, true, true, true, true, true, true, false, true, false, false, true, true, false, false, true, false, false, false, false, false, false, false, false, false, false]) rfl fun a hA => ?_
      refine apq hA 21 rfl (by kernel_rfl) (by intro c a d v w h; cases d <;> exact h) (fun w => (q_move rfl)) rfl (listed' := #[true, true, true, true, true, true, true, true, true, true, true, false, true, false, false, true, true, false, false, true, false, true, false, false, false, false, false, false, false, false]) rfl fun a hA => ?_
      refine apq hA 24 rfl (by kernel_rfl) (by intro c a d v w h; cases d <;> exact h) (fun w => (q_move rfl)) rfl (listed' := #[true, true, true, true, true, true, true, true, true, true, true, false, true, false, false, true, true, false, false, true, false, true, false, false, true, false, false, false, false, false]) rfl fun a hA => ?_
      refine apq hA 25 rfl (by kernel_rfl) (by intro c a d v w h; cases d <;> exact h) (fun w => (q_shr32 (n := 10) rfl rfl)) rfl (listed' := #[true, true, true, true, true, true, true, true, true, true, true, false, true, false, false, true, true, false, false, true, false, true, false, false, true, true, false, false, false, false]) rfl fun a hA => ?_
      refine al hA 11 rfl (by kernel_rfl) (lo_call fn105 rfl (rot_any _ 7 (by decide))) rfl (listed' := #[true, true, true, true, true, true, true, true, true, true, true, true, true, false, false, true, true, false, false, true, false, true, false, false, true, true, false, false, false, false]) rfl ?_
      rintro _ w ⟨rfl, hC⟩
      replace hH := HS.call0 hH hC
      clear hC
      have hS' := hH.pick [0, 1] (Hs' := [_, _]) rfl
      replace hS := hS'; clear hS'
      refine ⟨fun _ _ => hS, ?_⟩
      intro a hA
      refine al hA 13 rfl (by kernel_rfl) (lo_call fn105 rfl (rot_any _ 18 (by decide))) rfl (listed' := #[true, true, true, true, true, true, true, true, true, true, true, true, true, true, false, true, true, false, false, true, false, true, false, false, true, true, false, false, false, false]) rfl ?_
      rintro _ w ⟨rfl, hC⟩
      replace hH := HS.call0 hH hC
      clear hC
      have hS' := hH.pick [0, 1] (Hs' := [_, _]) rfl
      replace hS := hS'; clear hS'
      refine ⟨fun _ _ => hS, ?_⟩
      intro a hA
      refine apq hA 14 rfl (by kernel_rfl) (by intro c a d v w h; cases d <;> exact h) (fun w => (q_xor32 rfl rfl)) rfl (listed' := #[true, true, true, true, true, true, true, true, true, true, true, true, true, true, true, true, true, false, false, true, false, true, false, false, true, true, false, false, false, false]) rfl fun a hA => ?_
      refine apq hA 17 rfl (by kernel_rfl) (by intro c a d v w h; cases d <;> exact h) (fun w => (q_xor32 rfl rfl)) rfl (listed' := #[true, true, true, true, true, true, true, true, true, true, true, true, true, true, true, true, true, true, false, true, false, true, false, false, true, true, false, false, false, false]) rfl fun a hA => ?_
      refine apq hA 18 rfl (by kernel_rfl) (by intro c a d v w h; cases d <;> exact h) (fun w => (q_add32 rfl rfl)) rfl (listed' := #[true, true, true, true, true, true, true, true, true, true, true, true, true, true, true, true, true, true, true, true, false, true, false, false, true, true, false, false, false, false]) rfl fun a hA => ?_
      refine al hA 20 rfl (by kernel_rfl) (lo_call fn105 rfl (rot_any _ 17 (by decide))) rfl (listed' := #[true, true, true, true, true, true, true, true, true, true, true, true, true, true, true, true, true, true, true, true, true, true, false, false, true, true, false, false, false, false]) rfl ?_
      rintro _ w ⟨rfl, hC⟩
      replace hH := HS.call0 hH hC
      clear hC
      have hS' := hH.pick [0, 1] (Hs' := [_, _]) rfl
      replace hS := hS'; clear hS'
      refine ⟨fun _ _ => hS, ?_⟩
      intro a hA
      refine al hA 22 rfl (by kernel_rfl) (lo_call fn105 rfl (rot_any _ 19 (by decide))) rfl (listed' := #[true, true, true, true, true, true, true, true, true, true, true, true, true, true, true, true, true, true, true, true, true, true, true, false, true, true, false, false, false, false]) rfl ?_
      rintro _ w ⟨rfl, hC⟩
      replace hH := HS.call0 hH hC
      clear hC
      have hS' := hH.pick [0, 1] (Hs' := [_, _]) rfl
      replace hS := hS'; clear hS'
      refine ⟨fun _ _ => hS, ?_⟩
      intro a hA
      refine apq hA 23 rfl (by kernel_rfl) (by intro c a d v w h; cases d <;> exact h) (fun w => (q_xor32 rfl rfl)) rfl (listed' := #[true, true, true, true, true, true, true, true, true, true, true, true, true, true, true, true, true, true, true, true, true, true, true, true, true, true, false, false, false, false]) rfl fun a hA => ?_
      refine apq hA 26 rfl (by kernel_rfl) (by intro c a d v w h; cases d <;> exact h) (fun w => (q_xor32 rfl rfl)) rfl (listed' := #[true, true, true, true, true, true, true, true, true, true, true, true, true, true, true, true, true, true, true, true, true, true, true, true, true, true, true, false, false, false]) rfl fun a hA => ?_
      refine apq hA 27 rfl (by kernel_rfl) (by intro c a d v w h; cases d <;> exact h) (fun w => (q_add32 rfl rfl)) rfl (listed' := #[true, true, true, true, true, true, true, true, true, true, true, true, true, true, true, true, true, true, true, true, true, true, true, true, true, true, true, true, false, false]) rfl fun a hA => ?_
      refine apq hA 28 rfl (by kernel_rfl) (by intro c a d v w h; cases d <;> exact h) (fun w => (q_idxA1 (t) Tryd.underlying146 ti136 rfl rfl (by first | omega | rfl) (by first | omega | (simp; done) | (simp; omega) | (rw [List.length_map]; assumption) | assumption | rfl | (simp [*]; done) | (simp [*]; omega)))) rfl (listed' := #[true, true, true, true, true, true, true, true, true, true, true, true, true, true, true, true, true, true, true, true, true, true, true, true, true, true, true, true, true, false]) rfl fun a hA => ?_
      refine al0 hA 29 rfl (by kernel_rfl) (lo_store1m hH ti136 rfl rfl (by first | omega | (simp; done) | (simp; omega) | (rw [List.length_map]; assumption) | assumption | rfl | (simp [*]; done) | (simp [*]; omega)) rfl) (listed' := #[true, true, true, true, true, true, true, true, true, true, true, true, true, true, true, true, true, true, true, true, true, true, true, true, true, true, true, true, true, true]) rfl ?_
      clear hH; rintro _ w hH
      refine ⟨fun _ h => absurd h (by decide), ?_⟩
      refine a_end (by kernel_rfl) ?_ _
      refine block_normal ?_
      refine hK10 _ _ ?_
      clear hK10
      refine wp_region_lit ?_
      refine sq hA (q_addI (n := 1) rfl rfl (by omega)) rfl fun a hA => ?_
      refine sq hA (q_move rfl) rfl fun a hA => ?_
      refine wpList_nil ?_
      exact ⟨_, by omega, t + 1, hA.sub ⟨rfl, rfl, rfl, rfl, rfl, rfl, trivial⟩, (by first | (rw [sch_set (by omega) _ (sch_one l (by omega))] at hH; exact hH) | (rw [sch_set (by omega) _ (sch_prog l (by omega))] at hH; exact hH)), by omega, rfl⟩
  · skip
    obtain rfl : t = 64 := by omega
    rw [sched_end] at hH
    refine wp_exit ?_
    refine then_exit ?_
    replace hH := HS.unfold [_] hNR7 hH
    refine then_exit ?_
    refine exit_here ?_
    refine hK5 _ _ ?_
    clear hK5
    replace hA := hA.sub (E' := [(6, _), (5, _), (4, _), (2, _)]) ⟨rfl, rfl, rfl, rfl, trivial⟩
    refine wp_seq_k fun K16 hK16 => ?_
    refine any_go mixed (fun _ => true) hH ?_
    clear hH; intro w hH
    have hS := hH
    change wpK _ _ _ _ _ _ 24 #[false, false, false, false, false, false, false, false, false, false, false, false, false, false, false, false, false, false, false, false, false, false, false, false] _ _
    refine apq hA 0 rfl (by kernel_rfl) (by intro c a d v w h; cases d <;> exact h) (fun w => (q_idxA1 (0) Tryd.underlying137 ti136 rfl rfl (rfl) (by first | omega | (simp; done) | (simp; omega) | (rw [List.length_map]; assumption) | assumption | rfl | (simp [*]; done) | (simp [*]; omega)))) rfl (listed' := #[true, false, false, false, false, false, false, false, false, false, false, false, false, false, false, false, false, false, false, false, false, false, false, false]) rfl fun a hA => ?_
    refine aq hA 1 rfl (by kernel_rfl) (by intro c a d v w h; cases d <;> exact h) hS (fun w hH => (q_loadBm (0#32) hH 2 rfl Tryd.underlying136 rfl rfl (by first | omega | (simp; done) | (simp; omega) | (rw [List.length_map]; assumption) | assumption | rfl | (simp [*]; done) | (simp [*]; omega)))) rfl (listed' := #[true, true, false, false, false, false, false, false, false, false, false, false, false, false, false, false, false, false, false, false, false, false, false, false]) rfl fun a hA => ?_
    refine apq hA 2 rfl (by kernel_rfl) (by intro c a d v w h; cases d <;> exact h) (fun w => (q_idxA1 (1) Tryd.underlying137 ti136 rfl rfl (rfl) (by first | omega | (simp; done) | (simp; omega) | (rw [List.length_map]; assumption) | assumption | rfl | (simp [*]; done) | (simp [*]; omega)))) rfl (listed' := #[true, true, true, false, false, false, false, false, false, false, false, false, false, false, false, false, false, false, false, false, false, false, false, false]) rfl fun a hA => ?_
    refine aq hA 3 rfl (by kernel_rfl) (by intro c a d v w h; cases d <;> exact h) hS (fun w hH => (q_loadBm (0#32) hH 2 rfl Tryd.underlying136 rfl rfl (by first | omega | (simp; done) | (simp; omega) | (rw [List.length_map]; assumption) | assumption | rfl | (simp [*]; done) | (simp [*]; omega)))) rfl (listed' := #[true, true, true, true, false, false, false, false, false, false, false, false, false, false, false, false, false, false, false, false, false, false, false, false]) rfl fun a hA => ?_
    refine apq hA 4 rfl (by kernel_rfl) (by intro c a d v w h; cases d <;> exact h) (fun w => (q_idxA1 (2) Tryd.underlying137 ti136 rfl rfl (rfl) (by first | omega | (simp; done) | (simp; omega) | (rw [List.length_map]; assumption) | assumption | rfl | (simp [*]; done) | (simp [*]; omega)))) rfl (listed' := #[true, true, true, true, true, false, false, false, false, false, false, false, false, false, false, false, false, false, false, false, false, false, false, false]) rfl fun a hA => ?_
    refine aq hA 5 rfl (by kernel_rfl) (by intro c a d v w h; cases d <;> exact h) hS (fun w hH => (q_loadBm (0#32) hH 2 rfl Tryd.underlying136 rfl rfl (by first | omega | (simp; done) | (simp; omega) | (rw [List.length_map]; assumption) | assumption | rfl | (simp [*]; done) | (simp [*]; omega)))) rfl (listed' := #[true, true, true, true, true, true, false, false, false, false, false, false, false, false, false, false, false, false, false, false, false, false, false, false]) rfl fun a hA => ?_
    refine apq hA 6 rfl (by kernel_rfl) (by intro c a d v w h; cases d <;> exact h) (fun w => (q_idxA1 (3) Tryd.underlying137 ti136 rfl rfl (rfl) (by first | omega | (simp; done) | (simp; omega) | (rw [List.length_map]; assumption) | assumption | rfl | (simp [*]; done) | (simp [*]; omega)))) rfl (listed' := #[true, true, true, true, true, true, true, false, false, false, false, false, false, false, false, false, false, false, false, false, false, false, false, false]) rfl fun a hA => ?_
    refine aq hA 7 rfl (by kernel_rfl) (by intro c a d v w h; cases d <;> exact h) hS (fun w hH => (q_loadBm (0#32) hH 2 rfl Tryd.underlying136 rfl rfl (by first | omega | (simp; done) | (simp; omega) | (rw [List.length_map]; assumption) | assumption | rfl | (simp [*]; done) | (simp [*]; omega)))) rfl (listed' := #[true, true, true, true, true, true, true, true, false, false, false, false, false, false, false, false, false, false, false, false, false, false, false, false]) rfl fun a hA => ?_
    refine apq hA 8 rfl (by kernel_rfl) (by intro c a d v w h; cases d <;> exact h) (fun w => (q_idxA1 (4) Tryd.underlying137 ti136 rfl rfl (rfl) (by first | omega | (simp; done) | (simp; omega) | (rw [List.length_map]; assumption) | assumption | rfl | (simp [*]; done) | (simp [*]; omega)))) rfl (listed' := #[true, true, true, true, true, true, true, true, true, false, false, false, false, false, false, false, false, false, false, false, false, false, false, false]) rfl fun a hA => ?_
    refine aq hA 9 rfl (by kernel_rfl) (by intro c a d v w h; cases d <;> exact h) hS (fun w hH => (q_loadBm (0#32) hH 2 rfl Tryd.underlying136 rfl rfl (by first | omega | (simp; done) | (simp; omega) | (rw [List.length_map]; assumption) | assumption | rfl | (simp [*]; done) | (simp [*]; omega)))) rfl (listed' := #[true, true, true, true, true, true, true, true, true, true, false, false, false, false, false, false, false, false, false, false, false, false, false, false]) rfl fun a hA => ?_
    refine apq hA 10 rfl (by kernel_rfl) (by intro c a d v w h; cases d <;> exact h) (fun w => (q_idxA1 (5) Tryd.underlying137 ti136 rfl rfl (rfl) (by first | omega | (simp; done) | (simp; omega) | (rw [List.length_map]; assumption) | assumption | rfl | (simp [*]; done) | (simp [*]; omega)))) rfl (listed' := #[true, true, true, true, true, true, true, true, true, true, true, false, false, false, false, false, false, false, false, false, false, false, false, false]) rfl fun a hA => ?_
    refine aq hA 11 rfl (by kernel_rfl) (by intro c a d v w h; cases d <;> exact h) hS (fun w hH => (q_loadBm (0#32) hH 2 rfl Tryd.underlying136 rfl rfl (by first | omega | (simp; done) | (simp; omega) | (rw [List.length_map]; assumption) | assumption | rfl | (simp [*]; done) | (simp [*]; omega)))) rfl (listed' := #[true, true, true, true, true, true, true, true, true, true, true, true, false, false, false, false, false, false, false, false, false, false, false, false]) rfl fun a hA => ?_
    refine apq hA 12 rfl (by kernel_rfl) (by intro c a d v w h; cases d <;> exact h) (fun w => (q_idxA1 (6) Tryd.underlying137 ti136 rfl rfl (rfl) (by first | omega | (simp; done) | (simp; omega) | (rw [List.length_map]; assumption) | assumption | rfl | (simp [*]; done) | (simp [*]; omega)))) rfl (listed' := #[true, true, true, true, true, true, true, true, true, true, true, true, true, false, false, false, false, false, false, false, false, false, false, false]) rfl fun a hA => ?_
    refine aq hA 13 rfl (by kernel_rfl) (by intro c a d v w h; cases d <;> exact h) hS (fun w hH => (q_loadBm (0#32) hH 2 rfl Tryd.underlying136 rfl rfl (by first | omega | (simp; done) | (simp; omega) | (rw [List.length_map]; assumption) | assumption | rfl | (simp [*]; done) | (simp [*]; omega)))) rfl (listed' := #[true, true, true, true, true, true, true, true, true, true, true, true, true, true, false, false, false, false, false, false, false, false, false, false]) rfl fun a hA => ?_
    refine apq hA 14 rfl (by kernel_rfl) (by intro c a d v w h; cases d <;> exact h) (fun w => (q_idxA1 (7) Tryd.underlying137 ti136 rfl rfl (rfl) (by first | omega | (simp; done) | (simp; omega) | (rw [List.length_map]; assumption) | assumption | rfl | (simp [*]; done) | (simp [*]; omega)))) rfl (listed' := #[true, true, true, true, true, true, true, true, true, true, true, true, true, true, true, false, false, false, false, false, false, false, false, false]) rfl fun a hA => ?_
    refine aq hA 15 rfl (by kernel_rfl) (by intro c a d v w h; cases d <;> exact h) hS (fun w hH => (q_loadBm (0#32) hH 2 rfl Tryd.underlying136 rfl rfl (by first | omega | (simp; done) | (simp; omega) | (rw [List.length_map]; assumption) | assumption | rfl | (simp [*]; done) | (simp [*]; omega)))) rfl (listed' := #[true, true, true, true, true, true, true, true, true, true, true, true, true, true, true, true, false, false, false, false, false, false, false, false]) rfl fun a hA => ?_
    refine apq hA 16 rfl (by kernel_rfl) (by intro c a d v w h; cases d <;> exact h) (fun w => (q_assign rfl)) rfl (listed' := #[true, true, true, true, true, true, true, true, true, true, true, true, true, true, true, true, true, false, false, false, false, false, false, false]) rfl fun a hA => ?_
    refine apq hA 17 rfl (by kernel_rfl) (by intro c a d v w h; cases d <;> exact h) (fun w => (q_assign rfl)) rfl (listed' := #[true, true, true, true, true, true, true, true, true, true, true, true, true, true, true, true, true, true, false, false, false, false, false, false]) rfl fun a hA => ?_
    refine apq hA 18 rfl (by kernel_rfl) (by intro c a d v w h; cases d <;> exact h) (fun w => (q_assign rfl)) rfl (listed' := #[true, true, true, true, true, true, true, true, true, true, true, true, true, true, true, true, true, true, true, false, false, false, false, false]) rfl fun a hA => ?_
    refine apq hA 19 rfl (by kernel_rfl) (by intro c a d v w h; cases d <;> exact h) (fun w => (q_assign rfl)) rfl (listed' := #[true, true, true, true, true, true, true, true, true, true, true, true, true, true, true, true, true, true, true, true, false, false, false, false]) rfl fun a hA => ?_
    refine apq hA 20 rfl (by kernel_rfl) (by intro c a d v w h; cases d <;> exact h) (fun w => (q_assign rfl)) rfl (listed' := #[true, true, true, true, true, true, true, true, true, true, true, true, true, true, true, true, true, true, true, true, true, false, false, false]) rfl fun a hA => ?_
    refine apq hA 21 rfl (by kernel_rfl) (by intro c a d v w h; cases d <;> exact h) (fun w => (q_assign rfl)) rfl (listed' := #[true, true, true, true, true, true, true, true, true, true, true, true, true, true, true, true, true, true, true, true, true, true, false, false]) rfl fun a hA => ?_
    refine apq hA 22 rfl (by kernel_rfl) (by intro c a d v w h; cases d <;> exact h) (fun w => (q_assign rfl)) rfl (listed' := #[true, true, true, true, true, true, true, true, true, true, true, true, true, true, true, true, true, true, true, true, true, true, true, false]) rfl fun a hA => ?_
    refine apq hA 23 rfl (by kernel_rfl) (by intro c a d v w h; cases d <;> exact h) (fun w => (q_assign rfl)) rfl (listed' := #[true, true, true, true, true, true, true, true, true, true, true, true, true, true, true, true, true, true, true, true, true, true, true, true]) rfl fun a hA => ?_
    refine a_end (by kernel_rfl) ?_ _
    refine hK16 _ _ ?_
    clear hK16
    replace hA := hA.sub (E' := [(17, _), (16, _), (15, _), (14, _), (13, _), (12, _), (11, _), (10, _), (6, _), (5, _), (4, _), (2, _)]) ⟨rfl, rfl, rfl, rfl, rfl, rfl, rfl, rfl, rfl, rfl, rfl, rfl, trivial⟩
    refine wp_seq_k fun K17 hK17 => ?_
    refine wp_seq_k fun K18 hK18 => ?_
    refine wp_region_lit ?_
    refine sq hA (q_loadW hH 0 rfl Tryd.underlying146 rfl ti146 rfl (by first | omega | (simp; done) | (simp; omega) | (rw [List.length_map]; assumption) | assumption | rfl | (simp [*]; done) | (simp [*]; omega))) rfl fun a hA => ?_
    refine sq hA (q_move rfl) rfl fun a hA => ?_
    refine wpList_nil ?_
    refine hK18 _ _ ?_
    clear hK18
    replace hA := hA.sub (E' := [(95, _), (94, _), (17, _), (16, _), (15, _), (14, _), (13, _), (12, _), (11, _), (10, _), (5, _), (4, _), (2, _)]) ⟨rfl, rfl, rfl, rfl, rfl, rfl, rfl, rfl, rfl, rfl, rfl, rfl, rfl, trivial⟩
    refine wp_block ?_
    replace hH := hH.pick [2, 0, 1] (Hs' := [_, _, _]) rfl
    replace hH := HS.fold [_] [_, _] hH
    obtain ⟨NR19, hNR19, hH⟩ := hH
    refine wp_loop_ghost (fun gm a w => ∃ i : Nat, ∃ st : St, At 187 [(95, I i), (94, (.agg ((sched l 64).map U32).toArray)), (17, U32 st.h), (16, U32 st.g), (15, U32 st.f), (14, U32 st.e), (13, U32 st.d), (12, U32 st.c), (11, U32 st.b), (10, U32 st.a), (5, I 0), (4, (.pointer (some ⟨b_t4, 0, none⟩))), (2, (.pointer (some ⟨b_t2, 0, none⟩)))] a ∧ HS [] w0 w ([[(b_t2, Obj.cells (s.map U32).toArray 137 (0, 0))], NR19]) ∧ (i ≤ 64) ∧ (st = rnds (sched l 64) (St.of s) i) ∧ gm = 64 - i) (64 - (0)) ⟨0, St.of s, hA.sub ⟨rfl, rfl, rfl, rfl, rfl, rfl, rfl, rfl, rfl, rfl, rfl, rfl, rfl, trivial⟩, hH, by omega, by rfl, rfl⟩ ?_
    clear hA hH
    rintro gm a w ⟨i, st, hA, hH, hi, hst, rfl⟩
    refine wp_seq_k fun K20 hK20 => ?_
    refine wp_region_lit ?_
    refine sq hA (q_lssI (n := 64) rfl rfl) rfl fun a hA => ?_
    refine wpList_nil ?_
    refine hK20 _ _ ?_
    clear hK20
    refine wp_seq_k fun K21 hK21 => ?_
    refine cond_d hA rfl (fun hc96 => ?_) (fun hc96 => ?_)
    · skip
      refine wp_skip ?_
      refine hK21 _ _ ?_
      clear hK21
      refine wp_seq_k fun K22 hK22 => ?_
      refine wp_block ?_
      refine wp_seq_k fun K23 hK23 => ?_
      refine wp_region_lit ?_
      refine sq hA (q_move rfl) rfl fun a hA => ?_
      refine sq hA (q_indexm (0#32) _ Tryd.underlying146 ti136 Tryd.underlying136 rfl rfl rfl (rfl) (by first | omega | (simp; done) | (simp; omega) | (rw [List.length_map]; assumption) | assumption | rfl | (simp [*]; done) | (simp [*]; omega)) (by first | omega | (simp; done) | (simp; omega) | (rw [List.length_map]; assumption) | assumption | rfl | (simp [*]; done) | (simp [*]; omega))) rfl fun a hA => ?_
      refine sq hA (q_assign rfl) rfl fun a hA => ?_
      refine sq hA (q_assign rfl) rfl fun a hA => ?_
      refine wpList_nil ?_
      refine hK23 _ _ ?_
      clear hK23
      refine wp_seq_k fun K24 hK24 => ?_
      refine any_go mixed (fun _ => true) hH ?_
      clear hH; intro w hH
      have hS := hH
      change wpK _ _ _ _ _ _ 25 #[false, false, false, false, false, false, false, false, false, false, false, false, false, false, false, false, false, false, false, false, false, false, false, false, false] _ _
      refine apq hA 0 rfl (by kernel_rfl) (by intro c a d v w h; cases d <;> exact h) (fun w => (q_move rfl)) rfl (listed' := #[true, false, false, false, false, false, false, false, false, false, false, false, false, false, false, false, false, false, false, false, false, false, false, false, false]) rfl fun a hA => ?_
      refine apq hA 1 rfl (by kernel_rfl) (by intro c a d v w h; cases d <;> exact h) (fun w => (q_move rfl)) rfl (listed' := #[true, true, false, false, false, false, false, false, false, false, false, false, false, false, false, false, false, false, false, false, false, false, false, false, false]) rfl fun a hA => ?_
      refine apq hA 3 rfl (by kernel_rfl) (by intro c a d v w h; cases d <;> exact h) (fun w => (q_move rfl)) rfl (listed' := #[true, true, false, true, false, false, false, false, false, false, false, false, false, false, false, false, false, false, false, false, false, false, false, false, false]) rfl fun a hA => ?_
      refine apq hA 6 rfl (by kernel_rfl) (by intro c a d v w h; cases d <;> exact h) (fun w => (q_move rfl)) rfl (listed' := #[true, true, false, true, false, false, true, false, false, false, false, false, false, false, false, false, false, false, false, false, false, false, false, false, false]) rfl fun a hA => ?_
      refine apq hA 10 rfl (by kernel_rfl) (by intro c a d v w h; cases d <;> exact h) (fun w => (q_move rfl)) rfl (listed' := #[true, true, false, true, false, false, true, false, false, false, true, false, false, false, false, false, false, false, false, false, false, false, false, false, false]) rfl fun a hA => ?_
      refine apq hA 11 rfl (by kernel_rfl) (by intro c a d v w h; cases d <;> exact h) (fun w => (q_move rfl)) rfl (listed' := #[true, true, false, true, false, false, true, false, false, false, true, true, false, false, false, false, false, false, false, false, false, false, false, false, false]) rfl fun a hA => ?_
      refine apq hA 12 rfl (by kernel_rfl) (by intro c a d v w h; cases d <;> exact h) (fun w => (q_move rfl)) rfl (listed' := #[true, true, false, true, false, false, true, false, false, false, true, true, true, false, false, false, false, false, false, false, false, false, false, false, false]) rfl fun a hA => ?_
      refine apq hA 13 rfl (by kernel_rfl) (by intro c a d v w h; cases d <;> exact h) (fun w => (q_move rfl)) rfl (listed' := #[true, true, false, true, false, false, true, false, false, false, true, true, true, true, false, false, false, false, false, false, false, false, false, false, false]) rfl fun a hA => ?_
      refine apq hA 14 rfl (by kernel_rfl) (by intro c a d v w h; cases d <;> exact h) (fun w => (q_xor32 rfl rfl)) rfl (listed' := #[true, true, false, true, false, false, true, false, false, false, true, true, true, true, true, false, false, false, false, false, false, false, false, false, false]) rfl fun a hA => ?_
      refine apq hA 15 rfl (by kernel_rfl) (by intro c a d v w h; cases d <;> exact h) (fun w => (q_and32 rfl rfl)) rfl (listed' := #[true, true, false, true, false, false, true, false, false, false, true, true, true, true, true, true, false, false, false, false, false, false, false, false, false]) rfl fun a hA => ?_
      refine apq hA 16 rfl (by kernel_rfl) (by intro c a d v w h; cases d <;> exact h) (fun w => (q_xor32 rfl rfl)) rfl (listed' := #[true, true, false, true, false, false, true, false, false, false, true, true, true, true, true, true, true, false, false, false, false, false, false, false, false]) rfl fun a hA => ?_
      refine apq hA 18 rfl (by kernel_rfl) (by intro c a d v w h; cases d <;> exact h) (fun w => (q_move rfl)) rfl (listed' := #[true, true, false, true, false, false, true, false, false, false, true, true, true, true, true, true, true, false, true, false, false, false, false, false, false]) rfl fun a hA => ?_
      refine apq hA 19 rfl (by kernel_rfl) (by intro c a d v w h; cases d <;> exact h) (fun w => (q_idxA1 (i) Tryd.underlying146 ti136 rfl rfl (by first | omega | rfl) (by first | omega | (simp; done) | (simp; omega) | (rw [List.length_map]; assumption) | assumption | rfl | (simp [*]; done) | (simp [*]; omega)))) rfl (listed' := #[true, true, false, true, false, false, true, false, false, false, true, true, true, true, true, true, true, false, true, true, false, false, false, false, false]) rfl fun a hA => ?_
      refine aq hA 20 rfl (by kernel_rfl) (by intro c a d v w h; cases d <;> exact h) hS (fun w hH => (q_loadGm (0#32) (Gl.k (hg.mono hH NG.nil)) Tryd.underlying136 rfl rfl (by first | omega | (simp; done) | (simp; omega) | (rw [List.length_map]; assumption) | assumption | rfl | (simp [*]; done) | (simp [*]; omega)))) rfl (listed' := #[true, true, false, true, false, false, true, false, false, false, true, true, true, true, true, true, true, false, true, true, true, false, false, false, false]) rfl fun a hA => ?_
      refine apq hA 22 rfl (by kernel_rfl) (by intro c a d v w h; cases d <;> exact h) (fun w => (q_move rfl)) rfl (listed' := #[true, true, false, true, false, false, true, false, false, false, true, true, true, true, true, true, true, false, true, true, true, false, true, false, false]) rfl fun a hA => ?_
      refine al hA 2 rfl (by kernel_rfl) (lo_call fn105 rfl (rot_any _ 6 (by decide))) rfl (listed' := #[true, true, true, true, false, false, true, false, false, false, true, true, true, true, true, true, true, false, true, true, true, false, true, false, false]) rfl ?_
      rintro _ w ⟨rfl, hC⟩
      replace hH := HS.call0 hH hC
      clear hC
      have hS' := hH.pick [0, 1] (Hs' := [_, _]) rfl
      replace hS := hS'; clear hS'
      refine ⟨fun _ _ => hS, ?_⟩
      intro a hA
      refine al hA 4 rfl (by kernel_rfl) (lo_call fn105 rfl (rot_any _ 11 (by decide))) rfl (listed' := #[true, true, true, true, true, false, true, false, false, false, true, true, true, true, true, true, true, false, true, true, true, false, true, false, false]) rfl ?_
      rintro _ w ⟨rfl, hC⟩
      replace hH := HS.call0 hH hC
      clear hC
      have hS' := hH.pick [0, 1] (Hs' := [_, _]) rfl
      replace hS := hS'; clear hS'
      refine ⟨fun _ _ => hS, ?_⟩
      intro a hA
      refine apq hA 5 rfl (by kernel_rfl) (by intro c a d v w h; cases d <;> exact h) (fun w => (q_xor32 rfl rfl)) rfl (listed' := #[true, true, true, true, true, true, true, false, false, false, true, true, true, true, true, true, true, false, true, true, true, false, true, false, false]) rfl fun a hA => ?_
      refine al hA 7 rfl (by kernel_rfl) (lo_call fn105 rfl (rot_any _ 25 (by decide))) rfl (listed' := #[true, true, true, true, true, true, true, true, false, false, true, true, true, true, true, true, true, false, true, true, true, false, true, false, false]) rfl ?_
      rintro _ w ⟨rfl, hC⟩
      replace hH := HS.call0 hH hC
      clear hC
      have hS' := hH.pick [0, 1] (Hs' := [_, _]) rfl
      replace hS := hS'; clear hS'
      refine ⟨fun _ _ => hS, ?_⟩
      intro a hA
      refine apq hA 8 rfl (by kernel_rfl) (by intro c a d v w h; cases d <;> exact h) (fun w => (q_xor32 rfl rfl)) rfl (listed' := #[true, true, true, true, true, true, true, true, true, false, true, true, true, true, true, true, true, false, true, true, true, false, true, false, false]) rfl fun a hA => ?_
      refine apq hA 9 rfl (by kernel_rfl) (by intro c a d v w h; cases d <;> exact h) (fun w => (q_add32 rfl rfl)) rfl (listed' := #[true, true, true, true, true, true, true, true, true, true, true, true, true, true, true, true, true, false, true, true, true, false, true, false, false]) rfl fun a hA => ?_
      refine apq hA 17 rfl (by kernel_rfl) (by intro c a d v w h; cases d <;> exact h) (fun w => (q_add32 rfl rfl)) rfl (listed' := #[true, true, true, true, true, true, true, true, true, true, true, true, true, true, true, true, true, true, true, true, true, false, true, false, false]) rfl fun a hA => ?_
      refine apq hA 21 rfl (by kernel_rfl) (by intro c a d v w h; cases d <;> exact h) (fun w => (q_add32 rfl rfl)) rfl (listed' := #[true, true, true, true, true, true, true, true, true, true, true, true, true, true, true, true, true, true, true, true, true, true, true, false, false]) rfl fun a hA => ?_
      refine apq hA 23 rfl (by kernel_rfl) (by intro c a d v w h; cases d <;> exact h) (fun w => (q_add32 rfl rfl)) rfl (listed' := #[true, true, true, true, true, true, true, true, true, true, true, true, true, true, true, true, true, true, true, true, true, true, true, true, false]) rfl fun a hA => ?_
      refine apq hA 24 rfl (by kernel_rfl) (by intro c a d v w h; cases d <;> exact h) (fun w => (q_assign rfl)) rfl (listed' := #[true, true, true, true, true, true, true, true, true, true, true, true, true, true, true, true, true, true, true, true, true, true, true, true, true]) rfl fun a hA => ?_
      rw [ch_prog] at hA
      refine a_end (by kernel_rfl) ?_ _
      refine hK24 _ _ ?_
      clear hK24
      refine wp_seq_k fun K25 hK25 => ?_
      refine wp_region_lit ?_
      refine sq hA (q_move rfl) rfl fun a hA => ?_
      refine sl hA (lo_call fn105 rfl (rot_any _ 2 (by decide))) rfl ?_
      rintro _ w ⟨rfl, hC⟩ a hA
      replace hH := HS.call0 hH hC
      clear hC
      refine sq hA (q_move rfl) rfl fun a hA => ?_
      refine sl hA (lo_call fn105 rfl (rot_any _ 13 (by decide))) rfl ?_
      rintro _ w ⟨rfl, hC⟩ a hA
      replace hH := HS.call0 hH hC
      clear hC
      refine sq hA (q_xor32 rfl rfl) rfl fun a hA => ?_
      refine sq hA (q_move rfl) rfl fun a hA => ?_
      refine sl hA (lo_call fn105 rfl (rot_any _ 22 (by decide))) rfl ?_
      rintro _ w ⟨rfl, hC⟩ a hA
      replace hH := HS.call0 hH hC
      clear hC
      refine sq hA (q_xor32 rfl rfl) rfl fun a hA => ?_
      refine sq hA (q_move rfl) rfl fun a hA => ?_
      refine sq hA (q_move rfl) rfl fun a hA => ?_
      refine sq hA (q_and32 rfl rfl) rfl fun a hA => ?_
      refine sq hA (q_move rfl) rfl fun a hA => ?_
      refine sq hA (q_move rfl) rfl fun a hA => ?_
      refine sq hA (q_move rfl) rfl fun a hA => ?_
      refine sq hA (q_or32 rfl rfl) rfl fun a hA => ?_
      refine sq hA (q_and32 rfl rfl) rfl fun a hA => ?_
      refine sq hA (q_or32 rfl rfl) rfl fun a hA => ?_
      refine sq hA (q_add32 rfl rfl) rfl fun a hA => ?_
      refine sq hA (q_assign rfl) rfl fun a hA => ?_
      rw [maj_prog] at hA
      refine wpList_nil ?_
      refine hK25 _ _ ?_
      clear hK25
      refine wp_region_lit ?_
      refine sq hA (q_move rfl) rfl fun a hA => ?_
      refine sq hA (q_move rfl) rfl fun a hA => ?_
      refine sq hA (q_add32 rfl rfl) rfl fun a hA => ?_
      refine sq hA (q_move rfl) rfl fun a hA => ?_
      refine sq hA (q_move rfl) rfl fun a hA => ?_
      refine sq hA (q_move rfl) rfl fun a hA => ?_
      refine sq hA (q_move rfl) rfl fun a hA => ?_
      refine sq hA (q_move rfl) rfl fun a hA => ?_
      refine sq hA (q_add32 rfl rfl) rfl fun a hA => ?_
      refine sq hA (q_move rfl) rfl fun a hA => ?_
      refine sq hA (q_move rfl) rfl fun a hA => ?_
      refine sq hA (q_move rfl) rfl fun a hA => ?_
      refine sq hA (q_assign rfl) rfl fun a hA => ?_
      refine sq hA (q_assign rfl) rfl fun a hA => ?_
      refine sq hA (q_assign rfl) rfl fun a hA => ?_
      refine sq hA (q_assign rfl) rfl fun a hA => ?_
      refine sq hA (q_assign rfl) rfl fun a hA => ?_
      refine sq hA (q_assign rfl) rfl fun a hA => ?_
      refine sq hA (q_assign rfl) rfl fun a hA => ?_
      refine sq hA (q_assign rfl) rfl fun a hA => ?_
      refine wpList_nil ?_
      refine block_normal ?_
      refine hK22 _ _ ?_
      clear hK22
      refine wp_region_lit ?_
      refine sq hA (q_addI (n := 1) rfl rfl (by omega)) rfl fun a hA => ?_
      refine sq hA (q_move rfl) rfl fun a hA => ?_
      refine wpList_nil ?_
      exact ⟨_, by omega, i + 1, rnd st (kTab.getD i 0#32) ((sched l 64).getD i 0#32), hA.sub ⟨rfl, rfl, rfl, rfl, rfl, rfl, rfl, rfl, rfl, rfl, rfl, rfl, rfl, trivial⟩, hH, by omega, by (rw [hst]; rfl), rfl⟩
    · skip
      refine wp_exit ?_
      refine then_exit ?_
      replace hH := HS.unfold [_] hNR19 hH
      refine then_exit ?_
      refine exit_here ?_
      refine hK17 _ _ ?_
      clear hK17
      replace hA := hA.sub (E' := [(17, _), (16, _), (15, _), (14, _), (13, _), (12, _), (11, _), (10, _), (5, _), (4, _), (2, _)]) ⟨rfl, rfl, rfl, rfl, rfl, rfl, rfl, rfl, rfl, rfl, rfl, trivial⟩
      refine wp_seq_k fun K26 hK26 => ?_
      refine wp_region_lit ?_
      refine sq hA (q_idxA1 (0) Tryd.underlying137 ti136 rfl rfl (rfl) (by first | omega | (simp; done) | (simp; omega) | (rw [List.length_map]; assumption) | assumption | rfl | (simp [*]; done) | (simp [*]; omega))) rfl fun a hA => ?_
      refine sq hA (q_loadBm (0#32) hH 0 rfl Tryd.underlying136 rfl rfl (by first | omega | (simp; done) | (simp; omega) | (rw [List.length_map]; assumption) | assumption | rfl | (simp [*]; done) | (simp [*]; omega))) rfl fun a hA => ?_
      refine sq hA (q_move rfl) rfl fun a hA => ?_
      refine sq hA (q_add32 rfl rfl) rfl fun a hA => ?_
      refine sq hA (q_idxA1 (1) Tryd.underlying137 ti136 rfl rfl (rfl) (by first | omega | (simp; done) | (simp; omega) | (rw [List.length_map]; assumption) | assumption | rfl | (simp [*]; done) | (simp [*]; omega))) rfl fun a hA => ?_
      refine sq hA (q_loadBm (0#32) hH 0 rfl Tryd.underlying136 rfl rfl (by first | omega | (simp; done) | (simp; omega) | (rw [List.length_map]; assumption) | assumption | rfl | (simp [*]; done) | (simp [*]; omega))) rfl fun a hA => ?_
      refine sq hA (q_move rfl) rfl fun a hA => ?_
      refine sq hA (q_add32 rfl rfl) rfl fun a hA => ?_
      refine sq hA (q_idxA1 (2) Tryd.underlying137 ti136 rfl rfl (rfl) (by first | omega | (simp; done) | (simp; omega) | (rw [List.length_map]; assumption) | assumption | rfl | (simp [*]; done) | (simp [*]; omega))) rfl fun a hA => ?_
      refine sq hA (q_loadBm (0#32) hH 0 rfl Tryd.underlying136 rfl rfl (by first | omega | (simp; done) | (simp; omega) | (rw [List.length_map]; assumption) | assumption | rfl | (simp [*]; done) | (simp [*]; omega))) rfl fun a hA => ?_
      refine sq hA (q_move rfl) rfl fun a hA => ?_
      refine sq hA (q_add32 rfl rfl) rfl fun a hA => ?_
      refine sq hA (q_idxA1 (3) Tryd.underlying137 ti136 rfl rfl (rfl) (by first | omega | (simp; done) | (simp; omega) | (rw [List.length_map]; assumption) | assumption | rfl | (simp [*]; done) | (simp [*]; omega))) rfl fun a hA => ?_
      refine sq hA (q_loadBm (0#32) hH 0 rfl Tryd.underlying136 rfl rfl (by first | omega | (simp; done) | (simp; omega) | (rw [List.length_map]; assumption) | assumption | rfl | (simp [*]; done) | (simp [*]; omega))) rfl fun a hA => ?_
      refine sq hA (q_move rfl) rfl fun a hA => ?_
      refine sq hA (q_add32 rfl rfl) rfl fun a hA => ?_
      refine sq hA (q_idxA1 (4) Tryd.underlying137 ti136 rfl rfl (rfl) (by first | omega | (simp; done) | (simp; omega) | (rw [List.length_map]; assumption) | assumption | rfl | (simp [*]; done) | (simp [*]; omega))) rfl fun a hA => ?_
      refine sq hA (q_loadBm (0#32) hH 0 rfl Tryd.underlying136 rfl rfl (by first | omega | (simp; done) | (simp; omega) | (rw [List.length_map]; assumption) | assumption | rfl | (simp [*]; done) | (simp [*]; omega))) rfl fun a hA => ?_
      refine sq hA (q_move rfl) rfl fun a hA => ?_
      refine sq hA (q_add32 rfl rfl) rfl fun a hA => ?_
      refine sq hA (q_idxA1 (5) Tryd.underlying137 ti136 rfl rfl (rfl) (by first | omega | (simp; done) | (simp; omega) | (rw [List.length_map]; assumption) | assumption | rfl | (simp [*]; done) | (simp [*]; omega))) rfl fun a hA => ?_
      refine sq hA (q_loadBm (0#32) hH 0 rfl Tryd.underlying136 rfl rfl (by first | omega | (simp; done) | (simp; omega) | (rw [List.length_map]; assumption) | assumption | rfl | (simp [*]; done) | (simp [*]; omega))) rfl fun a hA => ?_
      refine sq hA (q_move rfl) rfl fun a hA => ?_
      refine sq hA (q_add32 rfl rfl) rfl fun a hA => ?_
      refine sq hA (q_idxA1 (6) Tryd.underlying137 ti136 rfl rfl (rfl) (by first | omega | (simp; done) | (simp; omega) | (rw [List.length_map]; assumption) | assumption | rfl | (simp [*]; done) | (simp [*]; omega))) rfl fun a hA => ?_
      refine sq hA (q_loadBm (0#32) hH 0 rfl Tryd.underlying136 rfl rfl (by first | omega | (simp; done) | (simp; omega) | (rw [List.length_map]; assumption) | assumption | rfl | (simp [*]; done) | (simp [*]; omega))) rfl fun a hA => ?_
      refine sq hA (q_move rfl) rfl fun a hA => ?_
      refine sq hA (q_add32 rfl rfl) rfl fun a hA => ?_
      refine sq hA (q_idxA1 (7) Tryd.underlying137 ti136 rfl rfl (rfl) (by first | omega | (simp; done) | (simp; omega) | (rw [List.length_map]; assumption) | assumption | rfl | (simp [*]; done) | (simp [*]; omega))) rfl fun a hA => ?_
      refine sq hA (q_loadBm (0#32) hH 0 rfl Tryd.underlying136 rfl rfl (by first | omega | (simp; done) | (simp; omega) | (rw [List.length_map]; assumption) | assumption | rfl | (simp [*]; done) | (simp [*]; omega))) rfl fun a hA => ?_
      refine sq hA (q_move rfl) rfl fun a hA => ?_
      refine sq hA (q_add32 rfl rfl) rfl fun a hA => ?_
      refine sq hA (q_build (v := .agg ((addAll s st : List _).map U32).toArray) rfl (fun w => by kernel_rfl)) rfl fun a hA => ?_
      replace hH := hH.pick [2, 0, 1] (Hs' := [_, _, _]) rfl
      refine s0 hA (lo_storeAm hH ti137 rfl rfl (by first | rfl | (simp; done)) (by first | rfl | (simp; done)) (one_U32 _)) ?_
      clear hH; rintro _ w hH
      refine sq hA (q_assign rfl) rfl fun a hA => ?_
      refine wpList_nil ?_
      refine hK26 _ _ ?_
      clear hK26
      replace hA := hA.sub (E' := [(5, _), (4, _)]) ⟨rfl, rfl, trivial⟩
      refine wp_ret ?_
      refine post_ret hA (res_c1 rfl hA rfl rfl (resW hH 0 rfl Tryd.underlying137 rfl ti137 (by first | assumption | (rw [List.length_map]; assumption) | rfl | exact sha_length _ | (simp; done) | (simp [*]; done) | omega))) ?_
      replace hH := hH.pick [] (Hs' := []) rfl
      have : i = 64 := by omega
      subst this; subst hst
      exact ⟨_, rfl, rfl, hH⟩

set_option maxHeartbeats 1000000 in
theorem refblock_any {w0 : World} {lv : Nat} (hg : Gl (lv + 1) w0) (s : List W) (v : Value) (l : List (BitVec 8)) (hs : s.length = 8) (hr : By [] w0 v l) (hl : l.length = 64) :
    Calls Tryd.prog 103 #[(.agg (s.map U32).toArray), v] w0 (Ret fun r w' => r = .agg ((blk s l).map U32).toArray ∧ HS [] w0 w' []) := by
  have hH := HS.start w0
  refine start (n := 171) (E := [(0, _), (1, _)]) Tryd.func103 rfl rfl rfl (args_look rfl) ?_
  intro a hA
  refine wp_seq_k fun K1 hK1 => ?_
  refine wp_region_lit ?_
  refine sl hA (lo_boxA hH rfl) rfl ?_
  clear hH; rintro _ w ⟨b_t2, rfl, hH⟩ a hA
  refine sl hA (lo_allocA hH ti137) rfl ?_
  clear hH; rintro _ w ⟨b_t4, rfl, hH⟩ a hA
  refine wpList_nil ?_
  refine hK1 _ _ ?_
  clear hK1
  replace hA := hA.sub (E' := [(4, _), (2, _), (1, _)]) ⟨rfl, rfl, rfl, trivial⟩
  refine wp_seq_k fun K2 hK2 => ?_
  refine wp_region_lit ?_
  refine sl hA (lo_allocA hH ti146) rfl ?_
  clear hH; rintro _ w ⟨b_t5, rfl, hH⟩ a hA
  refine wpList_nil ?_
  refine hK2 _ _ ?_
  clear hK2
  refine wp_seq_k fun K3 hK3 => ?_
  refine wp_seq_k fun K4 hK4 => ?_
  refine wp_region_lit ?_
  refine sq hA (q_assign rfl) rfl fun a hA => ?_
  refine wpList_nil ?_
  refine hK4 _ _ ?_
  clear hK4
  refine wp_block ?_
  replace hH := HS.fold [_] [_, _] hH
  obtain ⟨NR5, hNR5, hH⟩ := hH
  refine wp_loop_ghost (fun gm a w => ∃ t : Nat, At 171 [(6, I t), (5, (.pointer (some ⟨b_t5, 0, none⟩))), (4, (.pointer (some ⟨b_t4, 0, none⟩))), (2, (.pointer (some ⟨b_t2, 0, none⟩))), (1, v)] a ∧ HS [] w0 w ([[(b_t5, Obj.cells ((sched l t ++ List.replicate (64 - t) 0#32).map U32).toArray 146 (0, 0))], NR5]) ∧ (t ≤ 64) ∧ gm = 64 - t) (64 - (0)) ⟨0, hA.sub ⟨rfl, rfl, rfl, rfl, rfl, trivial⟩, hH, by omega, rfl⟩ ?_
  clear hA hH
  rintro gm a w ⟨t, hA, hH, ht, rfl⟩
  refine wp_seq_k fun K6 hK6 => ?_
  refine wp_seq_k fun K7 hK7 => ?_
  refine wp_region_lit ?_
  refine sq hA (q_move rfl) rfl fun a hA => ?_
  refine sq hA (q_lssI (n := 64) rfl rfl) rfl fun a hA => ?_
  refine wpList_nil ?_
  refine hK7 _ _ ?_
  clear hK7
  refine cond_d hA rfl (fun hc21 => ?_) (fun hc21 => ?_)
  · skip
    refine wp_skip ?_
    refine hK6 _ _ ?_
    clear hK6
    refine wp_seq_k fun K8 hK8 => ?_
    refine wp_block ?_
    refine wp_seq_k fun K9 hK9 => ?_
    refine wp_seq_k fun K10 hK10 => ?_
    refine wp_region_lit ?_
    refine sq hA (q_move rfl) rfl fun a hA => ?_
    refine sq hA (q_lssI (n := 16) rfl rfl) rfl fun a hA => ?_
    refine wpList_nil ?_
    refine hK10 _ _ ?_
    clear hK10
    refine cond_d hA rfl (fun hc25 => ?_) (fun hc25 => ?_)
    · skip
      refine wp_seq_k fun K11 hK11 => ?_
      refine wp_region_lit ?_
      refine sq hA (q_move rfl) rfl fun a hA => ?_
      refine sq hA (q_move rfl) rfl fun a hA => ?_
      refine sq hA (q_mulI (m := 4) rfl rfl (by omega)) rfl fun a hA => ?_
      refine sl hA (lo_call fn106 rfl (refword_any v l (4 * t) (hH.rd hr) (by omega) (by omega))) rfl ?_
      rintro _ w ⟨rfl, hC⟩ a hA
      replace hH := HS.call0 hH hC
      clear hC
      refine sq hA (q_move rfl) rfl fun a hA => ?_
      refine sq hA (q_extract rfl rfl) rfl fun a hA => ?_
      refine sq hA (q_extract rfl rfl) rfl fun a hA => ?_
      refine sq hA (q_assign rfl) rfl fun a hA => ?_
      refine sq hA (q_assign rfl) rfl fun a hA => ?_
      refine wpList_nil ?_
      refine hK11 _ _ ?_
      clear hK11
      replace hA := hA.sub (E' := [(7, _), (32, _), (31, _), (26, _), (30, _), (29, _), (28, _), (27, _), (25, _), (24, _), (21, _), (20, _), (6, _), (5, _), (4, _), (2, _), (1, _)]) ⟨rfl, rfl, rfl, rfl, rfl, rfl, rfl, rfl, rfl, rfl, rfl, rfl, rfl, rfl, rfl, rfl, rfl, trivial⟩
      refine wp_seq_k fun K12 hK12 => ?_
      refine wp_region_lit ?_
      refine sq hA (q_move rfl) rfl fun a hA => ?_
      refine sq hA (q_move rfl) rfl fun a hA => ?_
      refine sq hA (q_idxA1 (t) Tryd.underlying146 ti136 rfl rfl (by first | omega | rfl) (by first | omega | (simp; done) | (simp; omega) | (rw [List.length_map]; assumption) | assumption | rfl | (simp [*]; done) | (simp [*]; omega))) rfl fun a hA => ?_
      refine s0 hA (lo_store1m hH ti136 rfl rfl (by first | omega | (simp; done) | (simp; omega) | (rw [List.length_map]; assumption) | assumption | rfl | (simp [*]; done) | (simp [*]; omega)) rfl) ?_
      clear hH; rintro _ w hH
      refine wpList_nil ?_
      refine hK12 _ _ ?_
      clear hK12
      refine wp_exit ?_
      refine then_exit ?_
      refine exit_here ?_
      refine hK8 _ _ ?_
      clear hK8
      refine wp_region_lit ?_
      refine sq hA (q_move rfl) rfl fun a hA => ?_
      refine sq hA (q_addI (n := 1) rfl rfl (by omega)) rfl fun a hA => ?_
      refine sq hA (q_assign rfl) rfl fun a hA => ?_
      refine wpList_nil ?_
      exact ⟨_, by omega, t + 1, hA.sub ⟨rfl, rfl, rfl, rfl, rfl, trivial⟩, (by first | (rw [sch_set (by omega) _ (sch_one l (by omega))] at hH; exact hH) | (rw [sch_set (by omega) _ (sch_ref l (by omega))] at hH; exact hH)), by omega, rfl⟩
    · skip
      refine wp_skip ?_
      refine hK9 _ _ ?_
      clear hK9
      refine wp_seq_k fun K13 hK13 => ?_
      refine any_go mixed (fun _ => true) hH ?_
      clear hH; intro w hH
      have hS := hH
      change wpK _ _ _ _ _ _ 10 #[false, false, false, false, false, false, false, false, false, false] _ _
      refine apq hA 0 rfl (by kernel_rfl) (by intro c a d v w h; cases d <;> exact h) (fun w => (q_move rfl)) rfl (listed' := #[true, false, false, false, false, false, false, false, false, false]) rfl fun a hA => ?_
      refine apq hA 1 rfl (by kernel_rfl) (by intro c a d v w h; cases d <;> exact h) (fun w => (q_subI (n := 15) rfl rfl (by omega))) rfl (listed' := #[true, true, false, false, false, false, false, false, false, false]) rfl fun a hA => ?_
      refine apq hA 2 rfl (by kernel_rfl) (by intro c a d v w h; cases d <;> exact h) (fun w => (q_idxA1 (t - 15) Tryd.underlying146 ti136 rfl rfl (by first | omega | rfl) (by first | omega | (simp; done) | (simp; omega) | (rw [List.length_map]; assumption) | assumption | rfl | (simp [*]; done) | (simp [*]; omega)))) rfl (listed' := #[true, true, true, false, false, false, false, false, false, false]) rfl fun a hA => ?_
      refine aq hA 3 rfl (by kernel_rfl) (by intro c a d v w h; cases d <;> exact h) hS (fun w hH => (q_loadBm (0#32) hH 0 rfl Tryd.underlying136 rfl rfl (by first | omega | (simp; done) | (simp; omega) | (rw [List.length_map]; assumption) | assumption | rfl | (simp [*]; done) | (simp [*]; omega)))) rfl (listed' := #[true, true, true, true, false, false, false, false, false, false]) rfl fun a hA => ?_
      refine apq hA 4 rfl (by kernel_rfl) (by intro c a d v w h; cases d <;> exact h) (fun w => (q_move rfl)) rfl (listed' := #[true, true, true, true, true, false, false, false, false, false]) rfl fun a hA => ?_
      refine apq hA 5 rfl (by kernel_rfl) (by intro c a d v w h; cases d <;> exact h) (fun w => (q_subI (n := 2) rfl rfl (by omega))) rfl (listed' := #[true, true, true, true, true, true, false, false, false, false]) rfl fun a hA => ?_
      refine apq hA 6 rfl (by kernel_rfl) (by intro c a d v w h; cases d <;> exact h) (fun w => (q_idxA1 (t - 2) Tryd.underlying146 ti136 rfl rfl (by first | omega | rfl) (by first | omega | (simp; done) | (simp; omega) | (rw [List.length_map]; assumption) | assumption | rfl | (simp [*]; done) | (simp [*]; omega)))) rfl (listed' := #[true, true, true, true, true, true, true, false, false, false]) rfl fun a hA => ?_
      refine aq hA 7 rfl (by kernel_rfl) (by intro c a d v w h; cases d <;> exact h) hS (fun w hH => (q_loadBm (0#32) hH 0 rfl Tryd.underlying136 rfl rfl (by first | omega | (simp; done) | (simp; omega) | (rw [List.length_map]; assumption) | assumption | rfl | (simp [*]; done) | (simp [*]; omega)))) rfl (listed' := #[true, true, true, true, true, true, true, true, false, false]) rfl fun a hA => ?_
      refine apq hA 8 rfl (by kernel_rfl) (by intro c a d v w h; cases d <;> exact h) (fun w => (q_assign rfl)) rfl (listed' := #[true, true, true, true, true, true, true, true, true, false]) rfl fun a hA => ?_
      refine apq hA 9 rfl (by kernel_rfl) (by intro c a d v w h; cases d <;> exact h) (fun w => (q_assign rfl)) rfl (listed' := #[true, true, true, true, true, true, true, true, true, true]) rfl fun a hA => ?_
      refine a_end (by kernel_rfl) ?_ _
      refine hK13 _ _ ?_
      clear hK13
      refine wp_seq_k fun K14 hK14 => ?_
      refine wp_region_lit ?_
      refine sq hA (q_move rfl) rfl fun a hA => ?_
      refine sl hA (lo_call fn107 rfl (refrot_any _ 7 (by decide))) rfl ?_
      rintro _ w ⟨rfl, hC⟩ a hA
      replace hH := HS.call0 hH hC
      clear hC
      refine sq hA (q_move rfl) rfl fun a hA => ?_
      refine sl hA (lo_call fn107 rfl (refrot_any _ 18 (by decide))) rfl ?_
      rintro _ w ⟨rfl, hC⟩ a hA
      replace hH := HS.call0 hH hC
      clear hC
      refine sq hA (q_xor32 rfl rfl) rfl fun a hA => ?_
      refine sq hA (q_move rfl) rfl fun a hA => ?_
      refine sq hA (q_shr32 (n := 3) rfl rfl) rfl fun a hA => ?_
      refine sq hA (q_xor32 rfl rfl) rfl fun a hA => ?_
      refine sq hA (q_assign rfl) rfl fun a hA => ?_
      refine wpList_nil ?_
      refine hK14 _ _ ?_
      clear hK14
      refine wp_seq_k fun K15 hK15 => ?_
      refine wp_region_lit ?_
      refine sq hA (q_move rfl) rfl fun a hA => ?_
      refine sl hA (lo_call fn107 rfl (refrot_any _ 17 (by decide))) rfl ?_
      rintro _ w ⟨rfl, hC⟩ a hA
      replace hH := HS.call0 hH hC
      clear hC
      refine sq hA (q_move rfl) rfl fun a hA => ?_
      refine sl hA (lo_call fn107 rfl (refrot_any _ 19 (by decide))) rfl ?_
      rintro _ w ⟨rfl, hC⟩ a hA
      replace hH := HS.call0 hH hC
      clear hC
      refine sq hA (q_xor32 rfl rfl) rfl fun a hA => ?_
      refine sq hA (q_move rfl) rfl fun a hA => ?_
      refine sq hA (q_shr32 (n := 10) rfl rfl) rfl fun a hA => ?_
      refine sq hA (q_xor32 rfl rfl) rfl fun a hA => ?_
      refine sq hA (q_assign rfl) rfl fun a hA => ?_
      refine wpList_nil ?_
      refine hK15 _ _ ?_
      clear hK15
      refine any_go mixed (fun j => !(Nat.beq j 15)) hH ?_
      clear hH; intro w hH
      have hS := hH
      change wpK _ _ _ _ _ _ 16 #[false, false, false, false, false, false, false, false, false, false, false, false, false, false, false, false] _ _
      refine apq hA 0 rfl (by kernel_rfl) (by intro c a d v w h; cases d <;> exact h) (fun w => (q_move rfl)) rfl (listed' := #[true, false, false, false, false, false, false, false, false, false, false, false, false, false, false, false]) rfl fun a hA => ?_
      refine apq hA 1 rfl (by kernel_rfl) (by intro c a d v w h; cases d <;> exact h) (fun w => (q_move rfl)) rfl (listed' := #[true, true, false, false, false, false, false, false, false, false, false, false, false, false, false, false]) rfl fun a hA => ?_
      refine apq hA 2 rfl (by kernel_rfl) (by intro c a d v w h; cases d <;> exact h) (fun w => (q_move rfl)) rfl (listed' := #[true, true, true, false, false, false, false, false, false, false, false, false, false, false, false, false]) rfl fun a hA => ?_
      refine apq hA 3 rfl (by kernel_rfl) (by intro c a d v w h; cases d <;> exact h) (fun w => (q_subI (n := 7) rfl rfl (by omega))) rfl (listed' := #[true, true, true, true, false, false, false, false, false, false, false, false, false, false, false, false]) rfl fun a hA => ?_
      refine apq hA 4 rfl (by kernel_rfl) (by intro c a d v w h; cases d <;> exact h) (fun w => (q_idxA1 (t - 7) Tryd.underlying146 ti136 rfl rfl (by first | omega | rfl) (by first | omega | (simp; done) | (simp; omega) | (rw [List.length_map]; assumption) | assumption | rfl | (simp [*]; done) | (simp [*]; omega)))) rfl (listed' := #[true, true, true, true, true, false, false, false, false, false, false, false, false, false, false, false]) rfl fun a hA => ?_
      refine aq hA 5 rfl (by kernel_rfl) (by intro c a d v w h; cases d <;> exact h) hS (fun w hH => (q_loadBm (0#32) hH 0 rfl Tryd.underlying136 rfl rfl (by first | omega | (simp; done) | (simp; omega) | (rw [List.length_map]; assumption) | assumption | rfl | (simp [*]; done) | (simp [*]; omega)))) rfl (listed' := #[true, true, true, true, true, true, false, false, false, false, false, false, false, false, false, false]) rfl fun a hA => ?_
      refine apq hA 6 rfl (by kernel_rfl) (by intro c a d v w h; cases d <;> exact h) (fun w => (q_add32 rfl rfl)) rfl (listed' := #[true, true, true, true, true, true, true, false, false, false, false, false, false, false, false, false]) rfl fun a hA => ?_
      refine apq hA 7 rfl (by kernel_rfl) (by intro c a d v w h; cases d <;> exact h) (fun w => (q_move rfl)) rfl (listed' := #[true, true, true, true, true, true, true, true, false, false, false, false, false, false, false, false]) rfl fun a hA => ?_
      refine apq hA 8 rfl (by kernel_rfl) (by intro c a d v w h; cases d <;> exact h) (fun w => (q_add32 rfl rfl)) rfl (listed' := #[true, true, true, true, true, true, true, true, true, false, false, false, false, false, false, false]) rfl fun a hA => ?_
      refine apq hA 9 rfl (by kernel_rfl) (by intro c a d v w h; cases d <;> exact h) (fun w => (q_move rfl)) rfl (listed' := #[true, true, true, true, true, true, true, true, true, true, false, false, false, false, false, false]) rfl fun a hA => ?_
      refine apq hA 10 rfl (by kernel_rfl) (by intro c a d v w h; cases d <;> exact h) (fun w => (q_subI (n := 16) rfl rfl (by omega))) rfl (listed' := #[true, true, true, true, true, true, true, true, true, true, true, false, false, false, false, false]) rfl fun a hA => ?_
      refine apq hA 11 rfl (by kernel_rfl) (by intro c a d v w h; cases d <;> exact h) (fun w => (q_idxA1 (t - 16) Tryd.underlying146 ti136 rfl rfl (by first | omega | rfl) (by first | omega | (simp; done) | (simp; omega) | (rw [List.length_map]; assumption) | assumption | rfl | (simp [*]; done) | (simp [*]; omega)))) rfl (listed' := #[true, true, true, true, true, true, true, true, true, true, true, true, false, false, false, false]) rfl fun a hA => ?_
      refine aq hA 12 rfl (by kernel_rfl) (by intro c a d v w h; cases d <;> exact h) hS (fun w hH => (q_loadBm (0#32) hH 0 rfl Tryd.underlying136 rfl rfl (by first | omega | (simp; done) | (simp; omega) | (rw [List.length_map]; assumption) | assumption | rfl | (simp [*]; done) | (simp [*]; omega)))) rfl (listed' := #[true, true, true, true, true, true, true, true, true, true, true, true, true, false, false, false]) rfl fun a hA => ?_
      refine apq hA 13 rfl (by kernel_rfl) (by intro c a d v w h; cases d <;> exact h) (fun w => (q_add32 rfl rfl)) rfl (listed' := #[true, true, true, true, true, true, true, true, true, true, true, true, true, true, false, false]) rfl fun a hA => ?_
      refine apq hA 14 rfl (by kernel_rfl) (by intro c a d v w h; cases d <;> exact h) (fun w => (q_idxA1 (t) Tryd.underlying146 ti136 rfl rfl (by first | omega | rfl) (by first | omega | (simp; done) | (simp; omega) | (rw [List.length_map]; assumption) | assumption | rfl | (simp [*]; done) | (simp [*]; omega)))) rfl (listed' := #[true, true, true, true, true, true, true, true, true, true, true, true, true, true, true, false]) rfl fun a hA => ?_
      refine al0 hA 15 rfl (by kernel_rfl) (lo_store1m hH ti136 rfl rfl (by first | omega | (simp; done) | (simp; omega) | (rw [List.length_map]; assumption) | assumption | rfl | (simp [*]; done) | (simp [*]; omega)) rfl) (listed' := #[true, true, true, true, true, true, true, true, true, true, true, true, true, true, true, true]) rfl ?_
      clear hH; rintro _ w hH
      refine ⟨fun _ h => absurd h (by decide), ?_⟩
      refine a_end (by kernel_rfl) ?_ _
      refine block_normal ?_
      refine hK8 _ _ ?_
      clear hK8
      refine wp_region_lit ?_
      refine sq hA (q_move rfl) rfl fun a hA => ?_
      refine sq hA (q_addI (n := 1) rfl rfl (by omega)) rfl fun a hA => ?_
      refine sq hA (q_assign rfl) rfl fun a hA => ?_
      refine wpList_nil ?_
      exact ⟨_, by omega, t + 1, hA.sub ⟨rfl, rfl, rfl, rfl, rfl, trivial⟩, (by first | (rw [sch_set (by omega) _ (sch_one l (by omega))] at hH; exact hH) | (rw [sch_set (by omega) _ (sch_ref l (by omega))] at hH; exact hH)), by omega, rfl⟩
  · skip
    obtain rfl : t = 64 := by omega
    rw [sched_end] at hH
    refine wp_exit ?_
    refine then_exit ?_
    replace hH := HS.unfold [_] hNR5 hH
    refine then_exit ?_
    refine exit_here ?_
    refine hK3 _ _ ?_
    clear hK3
    replace hA := hA.sub (E' := [(5, _), (4, _), (2, _)]) ⟨rfl, rfl, rfl, trivial⟩
    refine wp_seq_k fun K16 hK16 => ?_
    refine wp_region_lit ?_
    refine sq hA (q_loadW hH 2 rfl Tryd.underlying137 rfl ti137 rfl (by first | omega | (simp; done) | (simp; omega) | (rw [List.length_map]; assumption) | assumption | rfl | (simp [*]; done) | (simp [*]; omega))) rfl fun a hA => ?_
    refine sl hA (lo_allocA hH ti137) rfl ?_
    clear hH; rintro _ w ⟨b_t13, rfl, hH⟩ a hA
    refine s0 hA (lo_storeAm hH ti137 rfl rfl (by first | rfl | (simp; done) | (simp [*]; done)) (by first | rfl | (simp; done) | (simp [*]; done)) (one_U32 _)) ?_
    clear hH; rintro _ w hH
    refine wpList_nil ?_
    refine hK16 _ _ ?_
    clear hK16
    replace hA := hA.sub (E' := [(13, _), (5, _), (4, _), (2, _)]) ⟨rfl, rfl, rfl, rfl, trivial⟩
    refine wp_seq_k fun K17 hK17 => ?_
    refine wp_seq_k fun K18 hK18 => ?_
    refine wp_region_lit ?_
    refine sq hA (q_assign rfl) rfl fun a hA => ?_
    refine wpList_nil ?_
    refine hK18 _ _ ?_
    clear hK18
    refine wp_block ?_
    replace hH := HS.fold [_, _] [_, _] hH
    obtain ⟨NR19, hNR19, hH⟩ := hH
    refine wp_loop_ghost (fun gm a w => ∃ i : Nat, ∃ st : St, At 171 [(14, I i), (13, (.pointer (some ⟨b_t13, 0, none⟩))), (5, (.pointer (some ⟨b_t5, 0, none⟩))), (4, (.pointer (some ⟨b_t4, 0, none⟩))), (2, (.pointer (some ⟨b_t2, 0, none⟩)))] a ∧ HS [] w0 w ([[(b_t13, Obj.cells (st.list.map U32).toArray 137 (0, 0))], [(b_t5, Obj.cells ((sched l 64).map U32).toArray 146 (0, 0))], NR19]) ∧ (i ≤ 64) ∧ (st = rnds (sched l 64) (St.of s) i) ∧ gm = 64 - i) (64 - (0)) ⟨0, St.of s, hA.sub ⟨rfl, rfl, rfl, rfl, rfl, trivial⟩, (by rw [St.of_list hs]; exact hH), by omega, by rfl, rfl⟩ ?_
    clear hA hH
    rintro gm a w ⟨i, st, hA, hH, hi, hst, rfl⟩
    refine wp_seq_k fun K20 hK20 => ?_
    refine wp_seq_k fun K21 hK21 => ?_
    refine wp_region_lit ?_
    refine sq hA (q_move rfl) rfl fun a hA => ?_
    refine sq hA (q_lssI (n := 64) rfl rfl) rfl fun a hA => ?_
    refine wpList_nil ?_
    refine hK21 _ _ ?_
    clear hK21
    refine cond_d hA rfl (fun hc77 => ?_) (fun hc77 => ?_)
    · skip
      refine wp_skip ?_
      refine hK20 _ _ ?_
      clear hK20
      refine wp_seq_k fun K22 hK22 => ?_
      refine wp_block ?_
      refine wp_seq_k fun K23 hK23 => ?_
      refine any_go mixed (fun _ => true) hH ?_
      clear hH; intro w hH
      have hS := hH
      change wpK _ _ _ _ _ _ 6 #[false, false, false, false, false, false] _ _
      refine apq hA 0 rfl (by kernel_rfl) (by intro c a d v w h; cases d <;> exact h) (fun w => (q_idxA1 (4) Tryd.underlying137 ti136 rfl rfl (rfl) (by first | omega | (simp; done) | (simp; omega) | (rw [List.length_map]; assumption) | assumption | rfl | (simp [*]; done) | (simp [*]; omega)))) rfl (listed' := #[true, false, false, false, false, false]) rfl fun a hA => ?_
      refine aq hA 1 rfl (by kernel_rfl) (by intro c a d v w h; cases d <;> exact h) hS (fun w hH => (q_loadBm (0#32) hH 0 rfl Tryd.underlying136 rfl rfl (by first | omega | (simp; done) | (simp; omega) | (rw [List.length_map]; assumption) | assumption | rfl | (simp [*]; done) | (simp [*]; omega)))) rfl (listed' := #[true, true, false, false, false, false]) rfl fun a hA => ?_
      refine apq hA 2 rfl (by kernel_rfl) (by intro c a d v w h; cases d <;> exact h) (fun w => (q_idxA1 (0) Tryd.underlying137 ti136 rfl rfl (rfl) (by first | omega | (simp; done) | (simp; omega) | (rw [List.length_map]; assumption) | assumption | rfl | (simp [*]; done) | (simp [*]; omega)))) rfl (listed' := #[true, true, true, false, false, false]) rfl fun a hA => ?_
      refine aq hA 3 rfl (by kernel_rfl) (by intro c a d v w h; cases d <;> exact h) hS (fun w hH => (q_loadBm (0#32) hH 0 rfl Tryd.underlying136 rfl rfl (by first | omega | (simp; done) | (simp; omega) | (rw [List.length_map]; assumption) | assumption | rfl | (simp [*]; done) | (simp [*]; omega)))) rfl (listed' := #[true, true, true, true, false, false]) rfl fun a hA => ?_
      refine apq hA 4 rfl (by kernel_rfl) (by intro c a d v w h; cases d <;> exact h) (fun w => (q_assign rfl)) rfl (listed' := #[true, true, true, true, true, false]) rfl fun a hA => ?_
      refine apq hA 5 rfl (by kernel_rfl) (by intro c a d v w h; cases d <;> exact h) (fun w => (q_assign rfl)) rfl (listed' := #[true, true, true, true, true, true]) rfl fun a hA => ?_
      refine a_end (by kernel_rfl) ?_ _
      refine hK23 _ _ ?_
      clear hK23
      refine wp_seq_k fun K24 hK24 => ?_
      refine any_go mixed (fun _ => true) hH ?_
      clear hH; intro w hH
      have hS := hH
      change wpK _ _ _ _ _ _ 31 #[false, false, false, false, false, false, false, false, false, false, false, false, false, false, false, false, false, false, false, false, false, false, false, false, false, false, false, false, false, false, false] _ _
      refine apq hA 0 rfl (by kernel_rfl) (by intro c a d v w h; cases d <;> exact h) (fun w => (q_idxA1 (7) Tryd.underlying137 ti136 rfl rfl (rfl) (by first | omega | (simp; done) | (simp; omega) | (rw [List.length_map]; assumption) | assumption | rfl | (simp [*]; done) | (simp [*]; omega)))) rfl (listed' := #[true, false, false, false, false, false, false, false, false, false, false, false, false, false, false, false, false, false, false, false, false, false, false, false, false, false, false, false, false, false, false]) rfl fun a hA => ?_
      refine aq hA 1 rfl (by kernel_rfl) (by intro c a d v w h; cases d <;> exact h) hS (fun w hH => (q_loadBm (0#32) hH 0 rfl Tryd.underlying136 rfl rfl (by first | omega | (simp; done) | (simp; omega) | (rw [List.length_map]; assumption) | assumption | rfl | (simp [*]; done) | (simp [*]; omega)))) rfl (listed' := #[true, true, false, false, false, false, false, false, false, false, false, false, false, false, false, false, false, false, false, false, false, false, false, false, false, false, false, false, false, false, false]) rfl fun a hA => ?_
      refine apq hA 2 rfl (by kernel_rfl) (by intro c a d v w h; cases d <;> exact h) (fun w => (q_move rfl)) rfl (listed' := #[true, true, true, false, false, false, false, false, false, false, false, false, false, false, false, false, false, false, false, false, false, false, false, false, false, false, false, false, false, false, false]) rfl fun a hA => ?_
      refine apq hA 4 rfl (by kernel_rfl) (by intro c a d v w h; cases d <;> exact h) (fun w => (q_move rfl)) rfl (listed' := #[true, true, true, false, true, false, false, false, false, false, false, false, false, false, false, false, false, false, false, false, false, false, false, false, false, false, false, false, false, false, false]) rfl fun a hA => ?_
      refine apq hA 7 rfl (by kernel_rfl) (by intro c a d v w h; cases d <;> exact h) (fun w => (q_move rfl)) rfl (listed' := #[true, true, true, false, true, false, false, true, false, false, false, false, false, false, false, false, false, false, false, false, false, false, false, false, false, false, false, false, false, false, false]) rfl fun a hA => ?_
      refine apq hA 11 rfl (by kernel_rfl) (by intro c a d v w h; cases d <;> exact h) (fun w => (q_move rfl)) rfl (listed' := #[true, true, true, false, true, false, false, true, false, false, false, true, false, false, false, false, false, false, false, false, false, false, false, false, false, false, false, false, false, false, false]) rfl fun a hA => ?_
      refine apq hA 12 rfl (by kernel_rfl) (by intro c a d v w h; cases d <;> exact h) (fun w => (q_idxA1 (5) Tryd.underlying137 ti136 rfl rfl (rfl) (by first | omega | (simp; done) | (simp; omega) | (rw [List.length_map]; assumption) | assumption | rfl | (simp [*]; done) | (simp [*]; omega)))) rfl (listed' := #[true, true, true, false, true, false, false, true, false, false, false, true, true, false, false, false, false, false, false, false, false, false, false, false, false, false, false, false, false, false, false]) rfl fun a hA => ?_
      refine aq hA 13 rfl (by kernel_rfl) (by intro c a d v w h; cases d <;> exact h) hS (fun w hH => (q_loadBm (0#32) hH 0 rfl Tryd.underlying136 rfl rfl (by first | omega | (simp; done) | (simp; omega) | (rw [List.length_map]; assumption) | assumption | rfl | (simp [*]; done) | (simp [*]; omega)))) rfl (listed' := #[true, true, true, false, true, false, false, true, false, false, false, true, true, true, false, false, false, false, false, false, false, false, false, false, false, false, false, false, false, false, false]) rfl fun a hA => ?_
      refine apq hA 14 rfl (by kernel_rfl) (by intro c a d v w h; cases d <;> exact h) (fun w => (q_and32 rfl rfl)) rfl (listed' := #[true, true, true, false, true, false, false, true, false, false, false, true, true, true, true, false, false, false, false, false, false, false, false, false, false, false, false, false, false, false, false]) rfl fun a hA => ?_
      refine apq hA 15 rfl (by kernel_rfl) (by intro c a d v w h; cases d <;> exact h) (fun w => (q_move rfl)) rfl (listed' := #[true, true, true, false, true, false, false, true, false, false, false, true, true, true, true, true, false, false, false, false, false, false, false, false, false, false, false, false, false, false, false]) rfl fun a hA => ?_
      refine apq hA 16 rfl (by kernel_rfl) (by intro c a d v w h; cases d <;> exact h) (fun w => (q_not32 rfl)) rfl (listed' := #[true, true, true, false, true, false, false, true, false, false, false, true, true, true, true, true, true, false, false, false, false, false, false, false, false, false, false, false, false, false, false]) rfl fun a hA => ?_
      refine apq hA 17 rfl (by kernel_rfl) (by intro c a d v w h; cases d <;> exact h) (fun w => (q_idxA1 (6) Tryd.underlying137 ti136 rfl rfl (rfl) (by first | omega | (simp; done) | (simp; omega) | (rw [List.length_map]; assumption) | assumption | rfl | (simp [*]; done) | (simp [*]; omega)))) rfl (listed' := #[true, true, true, false, true, false, false, true, false, false, false, true, true, true, true, true, true, true, false, false, false, false, false, false, false, false, false, false, false, false, false]) rfl fun a hA => ?_
      refine aq hA 18 rfl (by kernel_rfl) (by intro c a d v w h; cases d <;> exact h) hS (fun w hH => (q_loadBm (0#32) hH 0 rfl Tryd.underlying136 rfl rfl (by first | omega | (simp; done) | (simp; omega) | (rw [List.length_map]; assumption) | assumption | rfl | (simp [*]; done) | (simp [*]; omega)))) rfl (listed' := #[true, true, true, false, true, false, false, true, false, false, false, true, true, true, true, true, true, true, true, false, false, false, false, false, false, false, false, false, false, false, false]) rfl fun a hA => ?_
      refine apq hA 19 rfl (by kernel_rfl) (by intro c a d v w h; cases d <;> exact h) (fun w => (q_and32 rfl rfl)) rfl (listed' := #[true, true, true, false, true, false, false, true, false, false, false, true, true, true, true, true, true, true, true, true, false, false, false, false, false, false, false, false, false, false, false]) rfl fun a hA => ?_
      refine apq hA 20 rfl (by kernel_rfl) (by intro c a d v w h; cases d <;> exact h) (fun w => (q_xor32 rfl rfl)) rfl (listed' := #[true, true, true, false, true, false, false, true, false, false, false, true, true, true, true, true, true, true, true, true, true, false, false, false, false, false, false, false, false, false, false]) rfl fun a hA => ?_
      refine apq hA 22 rfl (by kernel_rfl) (by intro c a d v w h; cases d <;> exact h) (fun w => (q_move rfl)) rfl (listed' := #[true, true, true, false, true, false, false, true, false, false, false, true, true, true, true, true, true, true, true, true, true, false, true, false, false, false, false, false, false, false, false]) rfl fun a hA => ?_
      refine apq hA 23 rfl (by kernel_rfl) (by intro c a d v w h; cases d <;> exact h) (fun w => (q_idxA1 (i) Tryd.underlying146 ti136 rfl rfl (by first | omega | rfl) (by first | omega | (simp; done) | (simp; omega) | (rw [List.length_map]; assumption) | assumption | rfl | (simp [*]; done) | (simp [*]; omega)))) rfl (listed' := #[true, true, true, false, true, false, false, true, false, false, false, true, true, true, true, true, true, true, true, true, true, false, true, true, false, false, false, false, false, false, false]) rfl fun a hA => ?_
      refine aq hA 24 rfl (by kernel_rfl) (by intro c a d v w h; cases d <;> exact h) hS (fun w hH => (q_loadGm (0#32) (Gl.consts (hg.mono hH NG.nil) (by omega)) Tryd.underlying136 rfl rfl (by first | omega | (simp; done) | (simp; omega) | (rw [List.length_map]; assumption) | assumption | rfl | (simp [*]; done) | (simp [*]; omega)))) rfl (listed' := #[true, true, true, false, true, false, false, true, false, false, false, true, true, true, true, true, true, true, true, true, true, false, true, true, true, false, false, false, false, false, false]) rfl fun a hA => ?_
      refine apq hA 26 rfl (by kernel_rfl) (by intro c a d v w h; cases d <;> exact h) (fun w => (q_move rfl)) rfl (listed' := #[true, true, true, false, true, false, false, true, false, false, false, true, true, true, true, true, true, true, true, true, true, false, true, true, true, false, true, false, false, false, false]) rfl fun a hA => ?_
      refine apq hA 27 rfl (by kernel_rfl) (by intro c a d v w h; cases d <;> exact h) (fun w => (q_idxA1 (i) Tryd.underlying146 ti136 rfl rfl (by first | omega | rfl) (by first | omega | (simp; done) | (simp; omega) | (rw [List.length_map]; assumption) | assumption | rfl | (simp [*]; done) | (simp [*]; omega)))) rfl (listed' := #[true, true, true, false, true, false, false, true, false, false, false, true, true, true, true, true, true, true, true, true, true, false, true, true, true, false, true, true, false, false, false]) rfl fun a hA => ?_
      refine aq hA 28 rfl (by kernel_rfl) (by intro c a d v w h; cases d <;> exact h) hS (fun w hH => (q_loadBm (0#32) hH 1 rfl Tryd.underlying136 rfl rfl (by first | omega | (simp; done) | (simp; omega) | (rw [List.length_map]; assumption) | assumption | rfl | (simp [*]; done) | (simp [*]; omega)))) rfl (listed' := #[true, true, true, false, true, false, false, true, false, false, false, true, true, true, true, true, true, true, true, true, true, false, true, true, true, false, true, true, true, false, false]) rfl fun a hA => ?_
      refine al hA 3 rfl (by kernel_rfl) (lo_call fn107 rfl (refrot_any _ 6 (by decide))) rfl (listed' := #[true, true, true, true, true, false, false, true, false, false, false, true, true, true, true, true, true, true, true, true, true, false, true, true, true, false, true, true, true, false, false]) rfl ?_
      rintro _ w ⟨rfl, hC⟩
      replace hH := HS.call0 hH hC
      clear hC
      have hS' := hH.pick [0, 1, 2] (Hs' := [_, _, _]) rfl
      replace hS := hS'; clear hS'
      refine ⟨fun _ _ => hS, ?_⟩
      intro a hA
      refine al hA 5 rfl (by kernel_rfl) (lo_call fn107 rfl (refrot_any _ 11 (by decide))) rfl (listed' := #[true, true, true, true, true, true, false, true, false, false, false, true, true, true, true, true, true, true, true, true, true, false, true, true, true, false, true, true, true, false, false]) rfl ?_
      rintro _ w ⟨rfl, hC⟩
      replace hH := HS.call0 hH hC
      clear hC
      have hS' := hH.pick [0, 1, 2] (Hs' := [_, _, _]) rfl
      replace hS := hS'; clear hS'
      refine ⟨fun _ _ => hS, ?_⟩
      intro a hA
      refine apq hA 6 rfl (by kernel_rfl) (by intro c a d v w h; cases d <;> exact h) (fun w => (q_xor32 rfl rfl)) rfl (listed' := #[true, true, true, true, true, true, true, true, false, false, false, true, true, true, true, true, true, true, true, true, true, false, true, true, true, false, true, true, true, false, false]) rfl fun a hA => ?_
      refine al hA 8 rfl (by kernel_rfl) (lo_call fn107 rfl (refrot_any _ 25 (by decide))) rfl (listed' := #[true, true, true, true, true, true, true, true, true, false, false, true, true, true, true, true, true, true, true, true, true, false, true, true, true, false, true, true, true, false, false]) rfl ?_
      rintro _ w ⟨rfl, hC⟩
      replace hH := HS.call0 hH hC
      clear hC
      have hS' := hH.pick [0, 1, 2] (Hs' := [_, _, _]) rfl
      replace hS := hS'; clear hS'
      refine ⟨fun _ _ => hS, ?_⟩
      intro a hA
      refine apq hA 9 rfl (by kernel_rfl) (by intro c a d v w h; cases d <;> exact h) (fun w => (q_xor32 rfl rfl)) rfl (listed' := #[true, true, true, true, true, true, true, true, true, true, false, true, true, true, true, true, true, true, true, true, true, false, true, true, true, false, true, true, true, false, false]) rfl fun a hA => ?_
      refine apq hA 10 rfl (by kernel_rfl) (by intro c a d v w h; cases d <;> exact h) (fun w => (q_add32 rfl rfl)) rfl (listed' := #[true, true, true, true, true, true, true, true, true, true, true, true, true, true, true, true, true, true, true, true, true, false, true, true, true, false, true, true, true, false, false]) rfl fun a hA => ?_
      refine apq hA 21 rfl (by kernel_rfl) (by intro c a d v w h; cases d <;> exact h) (fun w => (q_add32 rfl rfl)) rfl (listed' := #[true, true, true, true, true, true, true, true, true, true, true, true, true, true, true, true, true, true, true, true, true, true, true, true, true, false, true, true, true, false, false]) rfl fun a hA => ?_
      refine apq hA 25 rfl (by kernel_rfl) (by intro c a d v w h; cases d <;> exact h) (fun w => (q_add32 rfl rfl)) rfl (listed' := #[true, true, true, true, true, true, true, true, true, true, true, true, true, true, true, true, true, true, true, true, true, true, true, true, true, true, true, true, true, false, false]) rfl fun a hA => ?_
      refine apq hA 29 rfl (by kernel_rfl) (by intro c a d v w h; cases d <;> exact h) (fun w => (q_add32 rfl rfl)) rfl (listed' := #[true, true, true, true, true, true, true, true, true, true, true, true, true, true, true, true, true, true, true, true, true, true, true, true, true, true, true, true, true, true, false]) rfl fun a hA => ?_
      refine apq hA 30 rfl (by kernel_rfl) (by intro c a d v w h; cases d <;> exact h) (fun w => (q_assign rfl)) rfl (listed' := #[true, true, true, true, true, true, true, true, true, true, true, true, true, true, true, true, true, true, true, true, true, true, true, true, true, true, true, true, true, true, true]) rfl fun a hA => ?_
      refine a_end (by kernel_rfl) ?_ _
      refine hK24 _ _ ?_
      clear hK24
      refine wp_seq_k fun K25 hK25 => ?_
      refine any_go mixed (fun _ => true) hH ?_
      clear hH; intro w hH
      have hS := hH
      change wpK _ _ _ _ _ _ 25 #[false, false, false, false, false, false, false, false, false, false, false, false, false, false, false, false, false, false, false, false, false, false, false, false, false] _ _
      refine apq hA 0 rfl (by kernel_rfl) (by intro c a d v w h; cases d <;> exact h) (fun w => (q_move rfl)) rfl (listed' := #[true, false, false, false, false, false, false, false, false, false, false, false, false, false, false, false, false, false, false, false, false, false, false, false, false]) rfl fun a hA => ?_
      refine apq hA 2 rfl (by kernel_rfl) (by intro c a d v w h; cases d <;> exact h) (fun w => (q_move rfl)) rfl (listed' := #[true, false, true, false, false, false, false, false, false, false, false, false, false, false, false, false, false, false, false, false, false, false, false, false, false]) rfl fun a hA => ?_
      refine apq hA 5 rfl (by kernel_rfl) (by intro c a d v w h; cases d <;> exact h) (fun w => (q_move rfl)) rfl (listed' := #[true, false, true, false, false, true, false, false, false, false, false, false, false, false, false, false, false, false, false, false, false, false, false, false, false]) rfl fun a hA => ?_
      refine apq hA 8 rfl (by kernel_rfl) (by intro c a d v w h; cases d <;> exact h) (fun w => (q_move rfl)) rfl (listed' := #[true, false, true, false, false, true, false, false, true, false, false, false, false, false, false, false, false, false, false, false, false, false, false, false, false]) rfl fun a hA => ?_
      refine apq hA 9 rfl (by kernel_rfl) (by intro c a d v w h; cases d <;> exact h) (fun w => (q_idxA1 (1) Tryd.underlying137 ti136 rfl rfl (rfl) (by first | omega | (simp; done) | (simp; omega) | (rw [List.length_map]; assumption) | assumption | rfl | (simp [*]; done) | (simp [*]; omega)))) rfl (listed' := #[true, false, true, false, false, true, false, false, true, true, false, false, false, false, false, false, false, false, false, false, false, false, false, false, false]) rfl fun a hA => ?_
      refine aq hA 10 rfl (by kernel_rfl) (by intro c a d v w h; cases d <;> exact h) hS (fun w hH => (q_loadBm (0#32) hH 0 rfl Tryd.underlying136 rfl rfl (by first | omega | (simp; done) | (simp; omega) | (rw [List.length_map]; assumption) | assumption | rfl | (simp [*]; done) | (simp [*]; omega)))) rfl (listed' := #[true, false, true, false, false, true, false, false, true, true, true, false, false, false, false, false, false, false, false, false, false, false, false, false, false]) rfl fun a hA => ?_
      refine apq hA 11 rfl (by kernel_rfl) (by intro c a d v w h; cases d <;> exact h) (fun w => (q_and32 rfl rfl)) rfl (listed' := #[true, false, true, false, false, true, false, false, true, true, true, true, false, false, false, false, false, false, false, false, false, false, false, false, false]) rfl fun a hA => ?_
      refine apq hA 12 rfl (by kernel_rfl) (by intro c a d v w h; cases d <;> exact h) (fun w => (q_move rfl)) rfl (listed' := #[true, false, true, false, false, true, false, false, true, true, true, true, true, false, false, false, false, false, false, false, false, false, false, false, false]) rfl fun a hA => ?_
      refine apq hA 13 rfl (by kernel_rfl) (by intro c a d v w h; cases d <;> exact h) (fun w => (q_idxA1 (2) Tryd.underlying137 ti136 rfl rfl (rfl) (by first | omega | (simp; done) | (simp; omega) | (rw [List.length_map]; assumption) | assumption | rfl | (simp [*]; done) | (simp [*]; omega)))) rfl (listed' := #[true, false, true, false, false, true, false, false, true, true, true, true, true, true, false, false, false, false, false, false, false, false, false, false, false]) rfl fun a hA => ?_
      refine aq hA 14 rfl (by kernel_rfl) (by intro c a d v w h; cases d <;> exact h) hS (fun w hH => (q_loadBm (0#32) hH 0 rfl Tryd.underlying136 rfl rfl (by first | omega | (simp; done) | (simp; omega) | (rw [List.length_map]; assumption) | assumption | rfl | (simp [*]; done) | (simp [*]; omega)))) rfl (listed' := #[true, false, true, false, false, true, false, false, true, true, true, true, true, true, true, false, false, false, false, false, false, false, false, false, false]) rfl fun a hA => ?_
      refine apq hA 15 rfl (by kernel_rfl) (by intro c a d v w h; cases d <;> exact h) (fun w => (q_and32 rfl rfl)) rfl (listed' := #[true, false, true, false, false, true, false, false, true, true, true, true, true, true, true, true, false, false, false, false, false, false, false, false, false]) rfl fun a hA => ?_
      refine apq hA 16 rfl (by kernel_rfl) (by intro c a d v w h; cases d <;> exact h) (fun w => (q_xor32 rfl rfl)) rfl (listed' := #[true, false, true, false, false, true, false, false, true, true, true, true, true, true, true, true, true, false, false, false, false, false, false, false, false]) rfl fun a hA => ?_
      refine apq hA 17 rfl (by kernel_rfl) (by intro c a d v w h; cases d <;> exact h) (fun w => (q_idxA1 (1) Tryd.underlying137 ti136 rfl rfl (rfl) (by first | omega | (simp; done) | (simp; omega) | (rw [List.length_map]; assumption) | assumption | rfl | (simp [*]; done) | (simp [*]; omega)))) rfl (listed' := #[true, false, true, false, false, true, false, false, true, true, true, true, true, true, true, true, true, true, false, false, false, false, false, false, false]) rfl fun a hA => ?_
      refine aq hA 18 rfl (by kernel_rfl) (by intro c a d v w h; cases d <;> exact h) hS (fun w hH => (q_loadBm (0#32) hH 0 rfl Tryd.underlying136 rfl rfl (by first | omega | (simp; done) | (simp; omega) | (rw [List.length_map]; assumption) | assumption | rfl | (simp [*]; done) | (simp [*]; omega)))) rfl (listed' := #[true, false, true, false, false, true, false, false, true, true, true, true, true, true, true, true, true, true, true, false, false, false, false, false, false]) rfl fun a hA => ?_
      refine apq hA 19 rfl (by kernel_rfl) (by intro c a d v w h; cases d <;> exact h) (fun w => (q_idxA1 (2) Tryd.underlying137 ti136 rfl rfl (rfl) (by first | omega | (simp; done) | (simp; omega) | (rw [List.length_map]; assumption) | assumption | rfl | (simp [*]; done) | (simp [*]; omega)))) rfl (listed' := #[true, false, true, false, false, true, false, false, true, true, true, true, true, true, true, true, true, true, true, true, false, false, false, false, false]) rfl fun a hA => ?_
      refine aq hA 20 rfl (by kernel_rfl) (by intro c a d v w h; cases d <;> exact h) hS (fun w hH => (q_loadBm (0#32) hH 0 rfl Tryd.underlying136 rfl rfl (by first | omega | (simp; done) | (simp; omega) | (rw [List.length_map]; assumption) | assumption | rfl | (simp [*]; done) | (simp [*]; omega)))) rfl (listed' := #[true, false, true, false, false, true, false, false, true, true, true, true, true, true, true, true, true, true, true, true, true, false, false, false, false]) rfl fun a hA => ?_
      refine apq hA 21 rfl (by kernel_rfl) (by intro c a d v w h; cases d <;> exact h) (fun w => (q_and32 rfl rfl)) rfl (listed' := #[true, false, true, false, false, true, false, false, true, true, true, true, true, true, true, true, true, true, true, true, true, true, false, false, false]) rfl fun a hA => ?_
      refine apq hA 22 rfl (by kernel_rfl) (by intro c a d v w h; cases d <;> exact h) (fun w => (q_xor32 rfl rfl)) rfl (listed' := #[true, false, true, false, false, true, false, false, true, true, true, true, true, true, true, true, true, true, true, true, true, true, true, false, false]) rfl fun a hA => ?_
      refine al hA 1 rfl (by kernel_rfl) (lo_call fn107 rfl (refrot_any _ 2 (by decide))) rfl (listed' := #[true, true, true, false, false, true, false, false, true, true, true, true, true, true, true, true, true, true, true, true, true, true, true, false, false]) rfl ?_
      rintro _ w ⟨rfl, hC⟩
      replace hH := HS.call0 hH hC
      clear hC
      have hS' := hH.pick [0, 1, 2] (Hs' := [_, _, _]) rfl
      replace hS := hS'; clear hS'
      refine ⟨fun _ _ => hS, ?_⟩
      intro a hA
      refine al hA 3 rfl (by kernel_rfl) (lo_call fn107 rfl (refrot_any _ 13 (by decide))) rfl (listed' := #[true, true, true, true, false, true, false, false, true, true, true, true, true, true, true, true, true, true, true, true, true, true, true, false, false]) rfl ?_
      rintro _ w ⟨rfl, hC⟩
      replace hH := HS.call0 hH hC
      clear hC
      have hS' := hH.pick [0, 1, 2] (Hs' := [_, _, _]) rfl
      replace hS := hS'; clear hS'
      refine ⟨fun _ _ => hS, ?_⟩
      intro a hA
      refine apq hA 4 rfl (by kernel_rfl) (by intro c a d v w h; cases d <;> exact h) (fun w => (q_xor32 rfl rfl)) rfl (listed' := #[true, true, true, true, true, true, false, false, true, true, true, true, true, true, true, true, true, true, true, true, true, true, true, false, false]) rfl fun a hA => ?_
      refine al hA 6 rfl (by kernel_rfl) (lo_call fn107 rfl (refrot_any _ 22 (by decide))) rfl (listed' := #[true, true, true, true, true, true, true, false, true, true, true, true, true, true, true, true, true, true, true, true, true, true, true, false, false]) rfl ?_
      rintro _ w ⟨rfl, hC⟩
      replace hH := HS.call0 hH hC
      clear hC
      have hS' := hH.pick [0, 1, 2] (Hs' := [_, _, _]) rfl
      replace hS := hS'; clear hS'
      refine ⟨fun _ _ => hS, ?_⟩
      intro a hA
      refine apq hA 7 rfl (by kernel_rfl) (by intro c a d v w h; cases d <;> exact h) (fun w => (q_xor32 rfl rfl)) rfl (listed' := #[true, true, true, true, true, true, true, true, true, true, true, true, true, true, true, true, true, true, true, true, true, true, true, false, false]) rfl fun a hA => ?_
      refine apq hA 23 rfl (by kernel_rfl) (by intro c a d v w h; cases d <;> exact h) (fun w => (q_add32 rfl rfl)) rfl (listed' := #[true, true, true, true, true, true, true, true, true, true, true, true, true, true, true, true, true, true, true, true, true, true, true, true, false]) rfl fun a hA => ?_
      refine apq hA 24 rfl (by kernel_rfl) (by intro c a d v w h; cases d <;> exact h) (fun w => (q_assign rfl)) rfl (listed' := #[true, true, true, true, true, true, true, true, true, true, true, true, true, true, true, true, true, true, true, true, true, true, true, true, true]) rfl fun a hA => ?_
      refine a_end (by kernel_rfl) ?_ _
      refine hK25 _ _ ?_
      clear hK25
      refine wp_region_lit ?_
      refine sq hA (q_move rfl) rfl fun a hA => ?_
      refine sq hA (q_move rfl) rfl fun a hA => ?_
      refine sq hA (q_add32 rfl rfl) rfl fun a hA => ?_
      refine sq hA (q_idxA1 (0) Tryd.underlying137 ti136 rfl rfl (rfl) (by first | omega | (simp; done) | (simp; omega) | (rw [List.length_map]; assumption) | assumption | rfl | (simp [*]; done) | (simp [*]; omega))) rfl fun a hA => ?_
      refine sq hA (q_loadBm (0#32) hH 0 rfl Tryd.underlying136 rfl rfl (by first | omega | (simp; done) | (simp; omega) | (rw [List.length_map]; assumption) | assumption | rfl | (simp [*]; done) | (simp [*]; omega))) rfl fun a hA => ?_
      refine sq hA (q_idxA1 (1) Tryd.underlying137 ti136 rfl rfl (rfl) (by first | omega | (simp; done) | (simp; omega) | (rw [List.length_map]; assumption) | assumption | rfl | (simp [*]; done) | (simp [*]; omega))) rfl fun a hA => ?_
      refine sq hA (q_loadBm (0#32) hH 0 rfl Tryd.underlying136 rfl rfl (by first | omega | (simp; done) | (simp; omega) | (rw [List.length_map]; assumption) | assumption | rfl | (simp [*]; done) | (simp [*]; omega))) rfl fun a hA => ?_
      refine sq hA (q_idxA1 (2) Tryd.underlying137 ti136 rfl rfl (rfl) (by first | omega | (simp; done) | (simp; omega) | (rw [List.length_map]; assumption) | assumption | rfl | (simp [*]; done) | (simp [*]; omega))) rfl fun a hA => ?_
      refine sq hA (q_loadBm (0#32) hH 0 rfl Tryd.underlying136 rfl rfl (by first | omega | (simp; done) | (simp; omega) | (rw [List.length_map]; assumption) | assumption | rfl | (simp [*]; done) | (simp [*]; omega))) rfl fun a hA => ?_
      refine sq hA (q_idxA1 (3) Tryd.underlying137 ti136 rfl rfl (rfl) (by first | omega | (simp; done) | (simp; omega) | (rw [List.length_map]; assumption) | assumption | rfl | (simp [*]; done) | (simp [*]; omega))) rfl fun a hA => ?_
      refine sq hA (q_loadBm (0#32) hH 0 rfl Tryd.underlying136 rfl rfl (by first | omega | (simp; done) | (simp; omega) | (rw [List.length_map]; assumption) | assumption | rfl | (simp [*]; done) | (simp [*]; omega))) rfl fun a hA => ?_
      refine sq hA (q_move rfl) rfl fun a hA => ?_
      refine sq hA (q_add32 rfl rfl) rfl fun a hA => ?_
      refine sq hA (q_idxA1 (4) Tryd.underlying137 ti136 rfl rfl (rfl) (by first | omega | (simp; done) | (simp; omega) | (rw [List.length_map]; assumption) | assumption | rfl | (simp [*]; done) | (simp [*]; omega))) rfl fun a hA => ?_
      refine sq hA (q_loadBm (0#32) hH 0 rfl Tryd.underlying136 rfl rfl (by first | omega | (simp; done) | (simp; omega) | (rw [List.length_map]; assumption) | assumption | rfl | (simp [*]; done) | (simp [*]; omega))) rfl fun a hA => ?_
      refine sq hA (q_idxA1 (5) Tryd.underlying137 ti136 rfl rfl (rfl) (by first | omega | (simp; done) | (simp; omega) | (rw [List.length_map]; assumption) | assumption | rfl | (simp [*]; done) | (simp [*]; omega))) rfl fun a hA => ?_
      refine sq hA (q_loadBm (0#32) hH 0 rfl Tryd.underlying136 rfl rfl (by first | omega | (simp; done) | (simp; omega) | (rw [List.length_map]; assumption) | assumption | rfl | (simp [*]; done) | (simp [*]; omega))) rfl fun a hA => ?_
      refine sq hA (q_idxA1 (6) Tryd.underlying137 ti136 rfl rfl (rfl) (by first | omega | (simp; done) | (simp; omega) | (rw [List.length_map]; assumption) | assumption | rfl | (simp [*]; done) | (simp [*]; omega))) rfl fun a hA => ?_
      refine sq hA (q_loadBm (0#32) hH 0 rfl Tryd.underlying136 rfl rfl (by first | omega | (simp; done) | (simp; omega) | (rw [List.length_map]; assumption) | assumption | rfl | (simp [*]; done) | (simp [*]; omega))) rfl fun a hA => ?_
      refine sq hA (q_build (v := .agg (((rnd st (kTab.getD i 0#32) ((sched l 64).getD i 0#32)).list : List _).map U32).toArray) rfl (fun w => by kernel_rfl)) rfl fun a hA => ?_
      refine s0 hA (lo_storeAm hH ti137 rfl rfl (by first | rfl | (simp; done) | (simp [*]; done)) (by first | rfl | (simp; done) | (simp [*]; done)) (one_U32 _)) ?_
      clear hH; rintro _ w hH
      refine wpList_nil ?_
      refine block_normal ?_
      refine hK22 _ _ ?_
      clear hK22
      refine wp_region_lit ?_
      refine sq hA (q_move rfl) rfl fun a hA => ?_
      refine sq hA (q_addI (n := 1) rfl rfl (by omega)) rfl fun a hA => ?_
      refine sq hA (q_assign rfl) rfl fun a hA => ?_
      refine wpList_nil ?_
      exact ⟨_, by omega, i + 1, rnd st (kTab.getD i 0#32) ((sched l 64).getD i 0#32), hA.sub ⟨rfl, rfl, rfl, rfl, rfl, trivial⟩, hH, by omega, by (rw [hst]; rfl), rfl⟩
    · skip
      obtain rfl : i = 64 := by omega
      refine wp_exit ?_
      refine then_exit ?_
      replace hH := HS.unfold [_, _] hNR19 hH
      refine then_exit ?_
      refine exit_here ?_
      refine hK17 _ _ ?_
      clear hK17
      replace hA := hA.sub (E' := [(13, _), (4, _), (2, _)]) ⟨rfl, rfl, rfl, trivial⟩
      refine wp_seq_k fun K26 hK26 => ?_
      refine wp_seq_k fun K27 hK27 => ?_
      refine wp_region_lit ?_
      refine sq hA (q_assign rfl) rfl fun a hA => ?_
      refine wpList_nil ?_
      refine hK27 _ _ ?_
      clear hK27
      refine wp_block ?_
      replace hH := hH.pick [3, 0, 1, 2] (Hs' := [_, _, _, _]) rfl
      replace hH := HS.fold [_, _] [_, _] hH
      obtain ⟨NR28, hNR28, hH⟩ := hH
      refine wp_loop_ghost (fun gm a w => ∃ i : Nat, At 171 [(19, I i), (13, (.pointer (some ⟨b_t13, 0, none⟩))), (4, (.pointer (some ⟨b_t4, 0, none⟩))), (2, (.pointer (some ⟨b_t2, 0, none⟩)))] a ∧ HS [] w0 w ([[(b_t2, Obj.cells ((addTo s st i).map U32).toArray 137 (0, 0))], [(b_t13, Obj.cells (st.list.map U32).toArray 137 (0, 0))], NR28]) ∧ (i ≤ 8) ∧ gm = 8 - i) (8 - (0)) ⟨0, hA.sub ⟨rfl, rfl, rfl, rfl, trivial⟩, hH, by omega, rfl⟩ ?_
      clear hA hH
      rintro gm a w ⟨i, hA, hH, hi, rfl⟩
      refine wp_seq_k fun K29 hK29 => ?_
      refine wp_seq_k fun K30 hK30 => ?_
      refine wp_region_lit ?_
      refine sq hA (q_move rfl) rfl fun a hA => ?_
      refine sq hA (q_lssI (n := 8) rfl rfl) rfl fun a hA => ?_
      refine wpList_nil ?_
      refine hK30 _ _ ?_
      clear hK30
      refine cond_d hA rfl (fun hc159 => ?_) (fun hc159 => ?_)
      · skip
        refine wp_skip ?_
        refine hK29 _ _ ?_
        clear hK29
        refine wp_seq_k fun K31 hK31 => ?_
        refine wp_block ?_
        refine any_go mixed (fun j => !(Nat.beq j 8)) hH ?_
        clear hH; intro w hH
        have hS := hH
        change wpK _ _ _ _ _ _ 9 #[false, false, false, false, false, false, false, false, false] _ _
        refine apq hA 0 rfl (by kernel_rfl) (by intro c a d v w h; cases d <;> exact h) (fun w => (q_move rfl)) rfl (listed' := #[true, false, false, false, false, false, false, false, false]) rfl fun a hA => ?_
        refine apq hA 1 rfl (by kernel_rfl) (by intro c a d v w h; cases d <;> exact h) (fun w => (q_idxA1 (i) Tryd.underlying137 ti136 rfl rfl (by first | omega | rfl) (by omega))) rfl (listed' := #[true, true, false, false, false, false, false, false, false]) rfl fun a hA => ?_
        refine aq hA 2 rfl (by kernel_rfl) (by intro c a d v w h; cases d <;> exact h) hS (fun w hH => (q_loadBm (0#32) hH 0 rfl Tryd.underlying136 rfl rfl (by rw [addTo_length hs st hi]; omega))) rfl (listed' := #[true, true, true, false, false, false, false, false, false]) rfl fun a hA => ?_
        refine apq hA 3 rfl (by kernel_rfl) (by intro c a d v w h; cases d <;> exact h) (fun w => (q_move rfl)) rfl (listed' := #[true, true, true, true, false, false, false, false, false]) rfl fun a hA => ?_
        refine apq hA 4 rfl (by kernel_rfl) (by intro c a d v w h; cases d <;> exact h) (fun w => (q_idxA1 (i) Tryd.underlying137 ti136 rfl rfl (by first | omega | rfl) (by first | omega | (simp; done) | (simp; omega) | (rw [List.length_map]; assumption) | assumption | rfl | (simp [*]; done) | (simp [*]; omega)))) rfl (listed' := #[true, true, true, true, true, false, false, false, false]) rfl fun a hA => ?_
        refine aq hA 5 rfl (by kernel_rfl) (by intro c a d v w h; cases d <;> exact h) hS (fun w hH => (q_loadBm (0#32) hH 1 rfl Tryd.underlying136 rfl rfl (by first | omega | (simp; done) | (simp; omega) | (rw [List.length_map]; assumption) | assumption | rfl | (simp [*]; done) | (simp [*]; omega)))) rfl (listed' := #[true, true, true, true, true, true, false, false, false]) rfl fun a hA => ?_
        refine apq hA 6 rfl (by kernel_rfl) (by intro c a d v w h; cases d <;> exact h) (fun w => (q_add32 rfl rfl)) rfl (listed' := #[true, true, true, true, true, true, true, false, false]) rfl fun a hA => ?_
        refine apq hA 7 rfl (by kernel_rfl) (by intro c a d v w h; cases d <;> exact h) (fun w => (q_idxA1 (i) Tryd.underlying137 ti136 rfl rfl (by first | omega | rfl) (by first | omega | (simp; done) | (simp; omega) | (rw [List.length_map]; assumption) | assumption | rfl | (simp [*]; done) | (simp [*]; omega)))) rfl (listed' := #[true, true, true, true, true, true, true, true, false]) rfl fun a hA => ?_
        refine al0 hA 8 rfl (by kernel_rfl) (lo_store1m hH ti136 rfl rfl (by rw [addTo_length hs st hi]; omega) rfl) (listed' := #[true, true, true, true, true, true, true, true, true]) rfl ?_
        clear hH; rintro _ w hH
        refine ⟨fun _ h => absurd h (by decide), ?_⟩
        refine a_end (by kernel_rfl) ?_ _
        refine block_normal ?_
        refine hK31 _ _ ?_
        clear hK31
        refine wp_region_lit ?_
        refine sq hA (q_move rfl) rfl fun a hA => ?_
        refine sq hA (q_addI (n := 1) rfl rfl (by omega)) rfl fun a hA => ?_
        refine sq hA (q_assign rfl) rfl fun a hA => ?_
        refine wpList_nil ?_
        exact ⟨_, by omega, i + 1, hA.sub ⟨rfl, rfl, rfl, rfl, trivial⟩, (by rw [addTo_get hs st (by omega), addTo_set hs st (by omega)] at hH; exact hH), by omega, rfl⟩
      · skip
        obtain rfl : i = 8 := by omega
        rw [addTo_end hs] at hH
        refine wp_exit ?_
        refine then_exit ?_
        replace hH := HS.unfold [_, _] hNR28 hH
        refine then_exit ?_
        refine exit_here ?_
        refine hK26 _ _ ?_
        clear hK26
        replace hA := hA.sub (E' := [(4, _), (2, _)]) ⟨rfl, rfl, trivial⟩
        refine wp_seq_k fun K32 hK32 => ?_
        refine wp_region_lit ?_
        refine sq hA (q_loadW hH 0 rfl Tryd.underlying137 rfl ti137 rfl (by rfl)) rfl fun a hA => ?_
        replace hH := hH.pick [3, 0, 1, 2] (Hs' := [_, _, _, _]) rfl
        refine s0 hA (lo_storeAm hH ti137 rfl rfl (by first | omega | (simp; done) | (simp; omega) | (rw [List.length_map]; assumption) | assumption | rfl | (simp [*]; done) | (simp [*]; omega)) (by first | omega | (simp; done) | (simp; omega) | (rw [List.length_map]; assumption) | assumption | rfl | (simp [*]; done) | (simp [*]; omega)) (one_U32 _)) ?_
        clear hH; rintro _ w hH
        refine wpList_nil ?_
        refine hK32 _ _ ?_
        clear hK32
        replace hA := hA.sub (E' := [(4, _)]) ⟨rfl, trivial⟩
        refine wp_ret ?_
        refine post_ret hA (res_c rfl hA rfl (resW hH 0 rfl Tryd.underlying137 rfl ti137 (by first | assumption | (rw [List.length_map]; assumption) | rfl | exact sha_length _ | (simp; done) | (simp [*]; done) | omega))) ?_
        replace hH := hH.pick [] (Hs' := []) rfl
        subst hst
        exact ⟨_, rfl, rfl, hH⟩

end Go.Proofs.YtipjpbfledddaaaDoor
