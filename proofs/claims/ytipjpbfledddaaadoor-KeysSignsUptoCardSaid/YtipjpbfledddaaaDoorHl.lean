/- Layer 7 (keys): the law KeysSigns. -/
import Derived.Test.YtipjpbfledddaaaDoorHf
import Derived.Test.YtipjpbfledddaaaDoorHh
import Derived.Test.YtipjpbfledddaaaDoorMn
namespace Go.Proofs.YtipjpbfledddaaaDoor
open Go
set_option linter.unusedVariables false
set_option linter.unusedSimpArgs false
set_option maxRecDepth 100000

set_option maxHeartbeats 2000000 in
theorem keysSigns_any {w0 : World} (hg : Gl 2 w0) (s : Bs) (hsd : s.length = 32) (n h : Int) (v : Value) (ac : List (Int × Int × Bs)) (hr : RdA [] w0 v ac) (hal : ac.length ≤ 1048576) :
    Calls Tryd.prog 7 #[(.agg ((s).map B8).toArray), I n, I h, v] w0 (Ret fun r w' => r = .bool true ∧ HS [] w0 w' []) := by
  have hH := HS.start w0
  refine start (n := 132) (E := [(0, _), (1, _), (2, _), (3, _)]) Tryd.func7 rfl rfl rfl (args_look rfl) ?_
  intro a hA
  obtain ⟨cs, ts, hcs, hat⟩ := hr
  refine wp_seq_k fun K1 hK1 => ?_
  refine wp_region_lit ?_
  refine sl hA (lo_boxA hH rfl) rfl ?_
  clear hH; rintro _ w ⟨b_t4, rfl, hH⟩ a hA
  refine sq hA (q_assign rfl) rfl fun a hA => ?_
  refine wpList_nil ?_
  refine hK1 _ _ ?_
  clear hK1
  replace hA := hA.sub (E' := [(8, _), (4, _), (1, _), (2, _), (3, _)]) ⟨rfl, rfl, rfl, rfl, rfl, trivial⟩
  refine wp_seq_k fun K2 hK2 => ?_
  refine wp_seq_k fun K3 hK3 => ?_
  refine wp_region_lit ?_
  refine sq hA (q_move rfl) rfl fun a hA => ?_
  refine sq hA (q_move rfl) rfl fun a hA => ?_
  refine sl hA (lo_call fn11 rfl (great7_any _ _)) rfl ?_
  rintro _ w ⟨rfl, hC⟩ a hA
  replace hH := HS.call0 hH hC
  clear hC
  refine hA.spl (fun hs19 hA => ?_) (fun hs19 hA => ?_)
  · skip
    refine sq hA (q_move rfl) rfl fun a hA => ?_
    refine gs hA rfl rfl rfl rfl fun a hA => ?_
    refine gs hA rfl rfl rfl rfl fun a hA => ?_
    refine gs hA rfl rfl rfl rfl fun a hA => ?_
    refine gs hA rfl rfl rfl rfl fun a hA => ?_
    refine sq hA (q_pick_t rfl rfl) rfl fun a hA => ?_
    refine sq hA (q_move rfl) rfl fun a hA => ?_
    refine gs hA rfl rfl rfl rfl fun a hA => ?_
    refine gs hA rfl rfl rfl rfl fun a hA => ?_
    refine gs hA rfl rfl rfl rfl fun a hA => ?_
    refine sq hA (q_pick_t rfl rfl) rfl fun a hA => ?_
    refine wpList_nil ?_
    refine hK3 _ _ ?_
    clear hK3
    replace hA := hA.sub (E' := [(30, _), (8, _), (4, _), (1, _), (2, _), (3, _)]) ⟨rfl, rfl, rfl, rfl, rfl, rfl, trivial⟩
    refine cond_t hA rfl ?_
    refine wp_seq_k fun K4 hK4 => ?_
    refine wp_region_lit ?_
    refine sl hA (lo_call fn12 rfl (awake7_any (hg.mono0 hH))) rfl ?_
    rintro _ w ⟨rfl, hC⟩ a hA
    replace hH := HS.call0 hH hC
    clear hC
    refine sq hA (q_assign rfl) rfl fun a hA => ?_
    refine wpList_nil ?_
    refine hK4 _ _ ?_
    clear hK4
    replace hA := hA.sub (E' := [(8, _), (4, _), (1, _), (2, _), (3, _)]) ⟨rfl, rfl, rfl, rfl, rfl, trivial⟩
    refine wp_ret ?_
    refine then_ret ?_
    refine post_ret hA (res_1 rfl hA rfl) ?_
    replace hH := hH.pick [] (Hs' := []) rfl
    exact ⟨_, rfl, rfl, hH⟩
  · skip
    refine sq hA (q_move rfl) rfl fun a hA => ?_
    refine gq hA rfl rfl (q_move rfl) rfl fun a hA => ?_
    refine gq hA rfl rfl (q_move rfl) rfl fun a hA => ?_
    refine gl hA rfl rfl (lo_call fn18 rfl (refright7_any _ _)) rfl ?_
    rintro _ w ⟨rfl, hC⟩ a hA
    replace hH := HS.call0 hH hC
    clear hC
    refine hA.spl (fun hs23 hA => ?_) (fun hs23 hA => ?_)
    · skip
      refine gq hA rfl rfl (q_not rfl) rfl fun a hA => ?_
      refine sq hA (q_pick_f rfl rfl) rfl fun a hA => ?_
      refine sq hA (q_move rfl) rfl fun a hA => ?_
      refine gq hA rfl rfl (q_move rfl) rfl fun a hA => ?_
      refine gq hA rfl rfl (q_len Tryd.underlying48 rfl (Rd.shp hcs)) rfl fun a hA => ?_
      refine gq hA rfl rfl (q_gtrI (n := 12) rfl rfl) rfl fun a hA => ?_
      refine hA.spl (fun hs29 hA => ?_) (fun hs29 hA => ?_)
      · skip
        refine sq hA (q_pick_f rfl rfl) rfl fun a hA => ?_
        refine wpList_nil ?_
        refine hK3 _ _ ?_
        clear hK3
        replace hA := hA.sub (E' := [(30, _), (8, _), (4, _), (1, _), (2, _), (3, _)]) ⟨rfl, rfl, rfl, rfl, rfl, rfl, trivial⟩
        refine cond_t hA rfl ?_
        refine wp_seq_k fun K5 hK5 => ?_
        refine wp_region_lit ?_
        refine sl hA (lo_call fn12 rfl (awake7_any (hg.mono0 hH))) rfl ?_
        rintro _ w ⟨rfl, hC⟩ a hA
        replace hH := HS.call0 hH hC
        clear hC
        refine sq hA (q_assign rfl) rfl fun a hA => ?_
        refine wpList_nil ?_
        refine hK5 _ _ ?_
        clear hK5
        replace hA := hA.sub (E' := [(8, _), (4, _), (1, _), (2, _), (3, _)]) ⟨rfl, rfl, rfl, rfl, rfl, trivial⟩
        refine wp_ret ?_
        refine then_ret ?_
        refine post_ret hA (res_1 rfl hA rfl) ?_
        replace hH := hH.pick [] (Hs' := []) rfl
        exact ⟨_, rfl, rfl, hH⟩
      · skip
        have hR : R7 n h := by assumption
        obtain ⟨n, rfl⟩ : ∃ m : Nat, n = m := ⟨n.toNat, by unfold R7 R5 at *; omega⟩
        obtain ⟨h, rfl⟩ : ∃ m : Nat, h = m := ⟨h.toNat, by unfold R7 R5 at *; omega⟩
        have hn5 := hR.1
        have hn1 := hR.1.1
        have hn2 := hR.1.2
        have hh6 : h ≤ 6 := by have := hR.2.2; omega
        have h64 := pow_le64 hh6
        have hp0 : 0 < 2 ^ h := Nat.pow_pos (by decide)
        have hPl := pubK_length s n h
        refine sq hA (q_pick_f rfl rfl) rfl fun a hA => ?_
        refine wpList_nil ?_
        refine hK3 _ _ ?_
        clear hK3
        replace hA := hA.sub (E' := [(30, _), (8, _), (4, _), (1, _), (2, _), (3, _)]) ⟨rfl, rfl, rfl, rfl, rfl, rfl, trivial⟩
        refine cond_f hA rfl ?_
        refine wp_skip ?_
        refine hK2 _ _ ?_
        clear hK2
        replace hA := hA.sub (E' := [(8, _), (4, _), (1, _), (2, _), (3, _)]) ⟨rfl, rfl, rfl, rfl, rfl, trivial⟩
        refine wp_seq_k fun K6 hK6 => ?_
        refine wp_region_lit ?_
        refine sq hA (q_loadW hH 0 rfl Tryd.underlying23 rfl ti23 rfl (by first | omega | (simp; done) | (simp; omega) | (rw [List.length_map]; assumption) | assumption | rfl | (simp [*]; done) | (simp [*]; omega))) rfl fun a hA => ?_
        refine sq hA (q_move rfl) rfl fun a hA => ?_
        refine sq hA (q_move rfl) rfl fun a hA => ?_
        refine sl hA (lo_call fn17 rfl (new7_any (hg.mono0 hH) s hsd n h hR)) rfl ?_
        rintro _ w ⟨b_k, b_s, v_l, N_l, rfl, hO_l, hC⟩ a hA
        replace hH := HS.call0 hH hC
        clear hC
        have hshp : Shp v_l (2 ^ (h)) := by have := Own.shp hO_l; rwa [leavesK_length] at this
        refine sq hA (q_move rfl) rfl fun a hA => ?_
        refine sq hA (q_extract rfl rfl) rfl fun a hA => ?_
        refine sq hA (q_extract rfl rfl) rfl fun a hA => ?_
        refine sq hA (q_assign rfl) rfl fun a hA => ?_
        refine sq hA (q_assign rfl) rfl fun a hA => ?_
        refine wpList_nil ?_
        refine hK6 _ _ ?_
        clear hK6
        replace hA := hA.sub (E' := [(10, _), (9, _), (8, _), (4, _), (1, _), (2, _), (3, _)]) ⟨rfl, rfl, rfl, rfl, rfl, rfl, rfl, trivial⟩
        refine wp_seq_k fun K7 hK7 => ?_
        refine wp_region_lit ?_
        refine sq hA (q_loadW hH 3 rfl Tryd.underlying23 rfl ti23 rfl (by first | omega | (simp; done) | (simp; omega) | (rw [List.length_map]; assumption) | assumption | rfl | (simp [*]; done) | (simp [*]; omega))) rfl fun a hA => ?_
        refine sq hA (q_move rfl) rfl fun a hA => ?_
        refine sq hA (q_move rfl) rfl fun a hA => ?_
        refine sq hA (Runs.eq (q_buildC (css := [s.map B8, [I n], [I h]]) (z := (List.replicate 32 0#8).map B8 ++ [(I 0), (I 0), (I 0)]) (BT.mk (pl := [(0, 32), (32, 1), (33, 1), (34, 1)]) (it := Tryd.t39) (by kernel_rfl) Tryd.underlying39 (by kernel_rfl) (by kernel_rfl)) rfl ⟨rfl, ⟨_, rfl, by simp [hsd], by decide⟩, rfl, ⟨_, rfl, rfl, by decide⟩, rfl, ⟨_, rfl, rfl, by decide⟩, trivial⟩) (putL_rkey hsd n h)) rfl fun a hA => ?_
        refine sl hA (lo_boxA hH rfl) rfl ?_
        clear hH; rintro _ w ⟨b_t43, rfl, hH⟩ a hA
        refine sq hA (q_assign rfl) rfl fun a hA => ?_
        refine wpList_nil ?_
        refine hK7 _ _ ?_
        clear hK7
        replace hA := hA.sub (E' := [(11, _), (10, _), (9, _), (8, _), (3, _)]) ⟨rfl, rfl, rfl, rfl, rfl, trivial⟩
        refine wp_seq_k fun K8 hK8 => ?_
        refine wp_seq_k fun K9 hK9 => ?_
        refine wp_region_lit ?_
        refine sq hA (q_assign rfl) rfl fun a hA => ?_
        refine wpList_nil ?_
        refine hK9 _ _ ?_
        clear hK9
        refine wp_block ?_
        replace hH := hH.pick [1, 2, 3, 0, 4] (Hs' := [_, _, _, _, _]) rfl
        replace hH := HS.fold [_, _, _, _] [_] hH
        obtain ⟨NR10, hNR10, hH⟩ := hH
        refine wp_loop_ghost (fun gm a w => ∃ i : Nat, ∃ x : Nat, At 132 [(12, I i), (11, (.pointer (some ⟨b_t43, 0, none⟩))), (10, I 0), (9, (.pointer (some ⟨b_k, 0, none⟩))), (8, (.bool false)), (3, v)] a ∧ HS [] w0 w ([[(b_k, Obj.cells (keyC (.func (.func 38) #[] #[.pointer (some ⟨b_s, 0, none⟩)]) v_l (pubK s n h) ((n : Nat) : Int) x).toArray 73 (0, 0))], [(b_s, Obj.cells (s.map B8).toArray 23 (0, 0))], N_l, [(b_t43, Obj.cells (rkeyC s n h x).toArray 39 (0, 0))], NR10]) ∧ (i ≤ ac.length) ∧ (x ≤ 2 ^ h) ∧ gm = ac.length - i) (ac.length - (0)) ⟨0, 0, hA.sub ⟨rfl, rfl, rfl, rfl, rfl, rfl, trivial⟩, hH, by omega, by omega, rfl⟩ ?_
        clear hA hH
        rintro gm a w ⟨i, x, hA, hH, hi, hxq, rfl⟩
        refine wp_seq_k fun K11 hK11 => ?_
        refine wp_seq_k fun K12 hK12 => ?_
        refine wp_region_lit ?_
        refine sq hA (q_move rfl) rfl fun a hA => ?_
        refine sq hA (q_move rfl) rfl fun a hA => ?_
        refine sq hA (q_len Tryd.underlying48 rfl (Rd.shp hcs)) rfl fun a hA => ?_
        refine sq hA (q_lssI rfl rfl) rfl fun a hA => ?_
        refine wpList_nil ?_
        refine hK12 _ _ ?_
        clear hK12
        refine cond_d hA rfl (fun hc47 => ?_) (fun hc47 => ?_)
        · skip
          refine wp_skip ?_
          refine hK11 _ _ ?_
          clear hK11
          refine wp_seq_k fun K13 hK13 => ?_
          refine wp_block ?_
          refine wp_seq_k fun K14 hK14 => ?_
          refine wp_seq_k fun K15 hK15 => ?_
          refine wp_region_lit ?_
          refine sq hA (q_move rfl) rfl fun a hA => ?_
          refine sq hA (q_move rfl) rfl fun a hA => ?_
          refine sq hA (q_idxk (i) Tryd.underlying48 ti50 rfl rfl (by first | omega | rfl) (Rd.shp hcs) (by first | omega | (simp; done) | (simp; omega) | (rw [List.length_map]; assumption) | assumption | rfl | (simp [*]; done) | (simp [*]; omega))) rfl fun a hA => ?_
          refine sq hA (q_fldE 2 Tryd.underlying50 rfl rfl ti24 rfl) rfl fun a hA => ?_
          refine sq hA (q_loadR Tryd.underlying24 rfl rfl (hH.rd hcs) (by omega) (hat i (by first | omega | (simp; done) | (simp; omega) | (rw [List.length_map]; assumption) | assumption | rfl | (simp [*]; done) | (simp [*]; omega))).2.2.1) rfl fun a hA => ?_
          refine sq hA (q_len Tryd.underlying24 rfl (Rd.shp (hat (i) (by first | omega | (simp; done) | (simp; omega) | (rw [List.length_map]; assumption) | assumption | rfl | (simp [*]; done) | (simp [*]; omega))).2.2.2)) rfl fun a hA => ?_
          refine sq hA (q_gtrI (n := 200) rfl rfl) rfl fun a hA => ?_
          refine wpList_nil ?_
          refine hK15 _ _ ?_
          clear hK15
          refine cond_d hA rfl (fun hc56 => ?_) (fun hc56 => ?_)
          · skip
            refine wp_seq_k fun K16 hK16 => ?_
            refine wp_region_lit ?_
            refine sl hA (lo_call fn12 rfl (awake7_any (hg.mono0 hH))) rfl ?_
            rintro _ w ⟨rfl, hC⟩ a hA
            replace hH := HS.call0 hH hC
            clear hC
            refine sq hA (q_assign rfl) rfl fun a hA => ?_
            refine wpList_nil ?_
            refine hK16 _ _ ?_
            clear hK16
            refine wp_ret ?_
            refine then_ret ?_
            refine block_ret ?_
            refine then_ret ?_
            refine then_ret ?_
            refine block_ret ?_
            refine then_ret ?_
            replace hH := HS.unfold [_, _, _, _] hNR10 hH
            refine post_ret hA (res_1 rfl hA rfl) ?_
            replace hH := hH.pick [] (Hs' := []) rfl
            exact ⟨_, rfl, rfl, hH⟩
          · skip
            refine wp_skip ?_
            refine hK14 _ _ ?_
            clear hK14
            refine wp_seq_k fun K17 hK17 => ?_
            refine wp_seq_k fun K18 hK18 => ?_
            refine wp_region_lit ?_
            refine sq hA (q_move rfl) rfl fun a hA => ?_
            refine sq hA (q_move rfl) rfl fun a hA => ?_
            refine sq hA (q_idxk (i) Tryd.underlying48 ti50 rfl rfl (by first | omega | rfl) (Rd.shp hcs) (by first | omega | (simp; done) | (simp; omega) | (rw [List.length_map]; assumption) | assumption | rfl | (simp [*]; done) | (simp [*]; omega))) rfl fun a hA => ?_
            refine sq hA (q_fldE 0 Tryd.underlying50 rfl rfl ti3 rfl) rfl fun a hA => ?_
            refine sq hA (q_loadR Tryd.underlying3 rfl rfl (hH.rd hcs) (by omega) (hat i (by first | omega | (simp; done) | (simp; omega) | (rw [List.length_map]; assumption) | assumption | rfl | (simp [*]; done) | (simp [*]; omega))).1) rfl fun a hA => ?_
            refine sq hA (q_neqI (n := 0) rfl rfl) rfl fun a hA => ?_
            refine wpList_nil ?_
            refine hK18 _ _ ?_
            clear hK18
            refine cond_d hA rfl (fun hc63 => ?_) (fun hc63 => ?_)
            · skip
              refine wp_seq_k fun K19 hK19 => ?_
              refine wp_seq_k fun K20 hK20 => ?_
              refine any_goI mixed [1, 2, 4] (Hs' := [_, _, _]) rfl (fun _ => true) hH ?_
              clear hH; intro w hH hS
              change wpK _ _ _ _ _ _ 24 #[false, false, false, false, false, false, false, false, false, false, false, false, false, false, false, false, false, false, false, false, false, false, false, false] _ _
              refine apq hA 0 rfl (by kernel_rfl) (by intro c a d v w h; cases d <;> exact h) (fun w => (q_move rfl)) rfl (listed' := #[true, false, false, false, false, false, false, false, false, false, false, false, false, false, false, false, false, false, false, false, false, false, false, false]) rfl fun a hA => ?_
              refine apq hA 1 rfl (by kernel_rfl) (by intro c a d v w h; cases d <;> exact h) (fun w => (q_move rfl)) rfl (listed' := #[true, true, false, false, false, false, false, false, false, false, false, false, false, false, false, false, false, false, false, false, false, false, false, false]) rfl fun a hA => ?_
              refine apq hA 2 rfl (by kernel_rfl) (by intro c a d v w h; cases d <;> exact h) (fun w => (q_move rfl)) rfl (listed' := #[true, true, true, false, false, false, false, false, false, false, false, false, false, false, false, false, false, false, false, false, false, false, false, false]) rfl fun a hA => ?_
              refine apq hA 3 rfl (by kernel_rfl) (by intro c a d v w h; cases d <;> exact h) (fun w => (q_idxk (i) Tryd.underlying48 ti50 rfl rfl (by first | omega | rfl) (Rd.shp hcs) (by first | omega | (simp; done) | (simp; omega) | (rw [List.length_map]; assumption) | assumption | rfl | (simp [*]; done) | (simp [*]; omega)))) rfl (listed' := #[true, true, true, true, false, false, false, false, false, false, false, false, false, false, false, false, false, false, false, false, false, false, false, false]) rfl fun a hA => ?_
              refine apq hA 4 rfl (by kernel_rfl) (by intro c a d v w h; cases d <;> exact h) (fun w => (q_fldE 1 Tryd.underlying50 rfl rfl ti3 rfl)) rfl (listed' := #[true, true, true, true, true, false, false, false, false, false, false, false, false, false, false, false, false, false, false, false, false, false, false, false]) rfl fun a hA => ?_
              refine aq hA 5 rfl (by kernel_rfl) (by intro c a d v w h; cases d <;> exact h) hS (fun w hH => (q_loadR Tryd.underlying3 rfl rfl (hH.rd hcs) (by omega) (hat i (by first | omega | (simp; done) | (simp; omega) | (rw [List.length_map]; assumption) | assumption | rfl | (simp [*]; done) | (simp [*]; omega))).2.1)) rfl (listed' := #[true, true, true, true, true, true, false, false, false, false, false, false, false, false, false, false, false, false, false, false, false, false, false, false]) rfl fun a hA => ?_
              refine apq hA 7 rfl (by kernel_rfl) (by intro c a d v w h; cases d <;> exact h) (fun w => (q_move rfl)) rfl (listed' := #[true, true, true, true, true, true, false, true, false, false, false, false, false, false, false, false, false, false, false, false, false, false, false, false]) rfl fun a hA => ?_
              refine apq hA 8 rfl (by kernel_rfl) (by intro c a d v w h; cases d <;> exact h) (fun w => (q_move rfl)) rfl (listed' := #[true, true, true, true, true, true, false, true, true, false, false, false, false, false, false, false, false, false, false, false, false, false, false, false]) rfl fun a hA => ?_
              refine apq hA 9 rfl (by kernel_rfl) (by intro c a d v w h; cases d <;> exact h) (fun w => (q_move rfl)) rfl (listed' := #[true, true, true, true, true, true, false, true, true, true, false, false, false, false, false, false, false, false, false, false, false, false, false, false]) rfl fun a hA => ?_
              refine apq hA 10 rfl (by kernel_rfl) (by intro c a d v w h; cases d <;> exact h) (fun w => (q_idxk (i) Tryd.underlying48 ti50 rfl rfl (by first | omega | rfl) (Rd.shp hcs) (by first | omega | (simp; done) | (simp; omega) | (rw [List.length_map]; assumption) | assumption | rfl | (simp [*]; done) | (simp [*]; omega)))) rfl (listed' := #[true, true, true, true, true, true, false, true, true, true, true, false, false, false, false, false, false, false, false, false, false, false, false, false]) rfl fun a hA => ?_
              refine apq hA 11 rfl (by kernel_rfl) (by intro c a d v w h; cases d <;> exact h) (fun w => (q_fldE 1 Tryd.underlying50 rfl rfl ti3 rfl)) rfl (listed' := #[true, true, true, true, true, true, false, true, true, true, true, true, false, false, false, false, false, false, false, false, false, false, false, false]) rfl fun a hA => ?_
              refine aq hA 12 rfl (by kernel_rfl) (by intro c a d v w h; cases d <;> exact h) hS (fun w hH => (q_loadR Tryd.underlying3 rfl rfl (hH.rd hcs) (by omega) (hat i (by first | omega | (simp; done) | (simp; omega) | (rw [List.length_map]; assumption) | assumption | rfl | (simp [*]; done) | (simp [*]; omega))).2.1)) rfl (listed' := #[true, true, true, true, true, true, false, true, true, true, true, true, true, false, false, false, false, false, false, false, false, false, false, false]) rfl fun a hA => ?_
              refine al hA 6 rfl (by kernel_rfl) (lo_call fn23 rfl (skip7_any _ _ _ _ hPl _ _ _ hshp (by first | exact Nat.zero_le _ | omega | decide) (by first | assumption | omega | decide) ((ac.getD i dA).2.1) (HS.handed (Ns1 := [_]) hH))) rfl (listed' := #[true, true, true, true, true, true, true, true, true, true, true, true, true, false, false, false, false, false, false, false, false, false, false, false]) rfl ?_
              rintro _ w ⟨rfl, hC⟩
              replace hH := HS.call (Ns1 := [_]) hH hC
              clear hC
              have hsk2 : (skT (2 ^ h) x (ac.getD i dA).2.1).2 ≤ 2 ^ h := skT_le hxq
              have hS' := hH.pick [1, 2, 4] (Hs' := [_, _, _]) rfl
              replace hS := hS'; clear hS'
              refine ⟨fun _ _ => hS, ?_⟩
              intro a hA
              replace hH := hH.pick [3, 0, 1, 2, 4] (Hs' := [_, _, _, _, _]) rfl
              refine al hA 13 rfl (by kernel_rfl) (lo_call fn25 rfl (refskip7_any (hg.mono0 hH) _ (hg.ng NG.nil hH) s hsd n h hR _ (by omega) ((ac.getD i dA).2.1) (HS.handed (Ns1 := [_]) hH))) rfl (listed' := #[true, true, true, true, true, true, true, true, true, true, true, true, true, true, false, false, false, false, false, false, false, false, false, false]) rfl ?_
              rintro _ w ⟨rfl, hC⟩
              replace hH := HS.call (Ns1 := [_]) hH hC
              clear hC
              have hS' := hH.pick [2, 3, 4] (Hs' := [_, _, _]) rfl
              replace hS := hS'; clear hS'
              refine ⟨fun _ _ => hS, ?_⟩
              intro a hA
              refine apq hA 14 rfl (by kernel_rfl) (by intro c a d v w h; cases d <;> exact h) (fun w => (q_neqI rfl rfl)) rfl (listed' := #[true, true, true, true, true, true, true, true, true, true, true, true, true, true, true, false, false, false, false, false, false, false, false, false]) rfl fun a hA => ?_
              replace hA := hA.decF (by exact fun h => h rfl)
              refine apq hA 15 rfl (by kernel_rfl) (by intro c a d v w h; cases d <;> exact h) (fun w => (q_move rfl)) rfl (listed' := #[true, true, true, true, true, true, true, true, true, true, true, true, true, true, true, true, false, false, false, false, false, false, false, false]) rfl fun a hA => ?_
              refine apgq hA 16 rfl (by kernel_rfl) rfl rfl (by intro c a d v w h; cases d <;> exact h) (fun w => (q_move rfl)) rfl (listed' := #[true, true, true, true, true, true, true, true, true, true, true, true, true, true, true, true, true, false, false, false, false, false, false, false]) rfl fun a hA => ?_
              refine apgq hA 18 rfl (by kernel_rfl) rfl rfl (by intro c a d v w h; cases d <;> exact h) (fun w => (q_move rfl)) rfl (listed' := #[true, true, true, true, true, true, true, true, true, true, true, true, true, true, true, true, true, false, true, false, false, false, false, false]) rfl fun a hA => ?_
              refine apgq hA 19 rfl (by kernel_rfl) rfl rfl (by intro c a d v w h; cases d <;> exact h) (fun w => (q_nilCheck rfl)) rfl (listed' := #[true, true, true, true, true, true, true, true, true, true, true, true, true, true, true, true, true, false, true, true, false, false, false, false]) rfl fun a hA => ?_
              refine apgq hA 20 rfl (by kernel_rfl) rfl rfl (by intro c a d v w h; cases d <;> exact h) (fun w => (q_fld 34 Tryd.underlying39 rfl rfl ti3 rfl)) rfl (listed' := #[true, true, true, true, true, true, true, true, true, true, true, true, true, true, true, true, true, false, true, true, true, false, false, false]) rfl fun a hA => ?_
              refine a_ch2 (i := 17) (j := 21) (by kernel_rfl) ?_ ?_
              · skip
                replace hH := hH.pick [1, 0, 2, 3, 4] (Hs' := [_, _, _, _, _]) rfl
                refine oneGL hA 17 rfl rfl rfl (lo_call fn21 rfl (next7_any _ _ _ _ hPl _ _ _ hshp (by first | exact Nat.zero_le _ | omega | decide) (by first | assumption | omega | decide) (HS.handed (Ns1 := [_]) hH))) rfl (listed' := #[true, true, true, true, true, true, true, true, true, true, true, true, true, true, true, true, true, true, true, true, true, false, false, false]) rfl ?_
                rintro _ w ⟨rfl, hC⟩
                replace hH := HS.call (Ns1 := [_]) hH hC
                clear hC
                have hS' := hH.pick [2, 3, 4] (Hs' := [_, _, _]) rfl
                replace hS := hS'; clear hS'
                refine ⟨fun _ _ => hS, ?_⟩
                intro a hA
                refine agl hA 21 rfl (by kernel_rfl) rfl rfl (Runs.lo (q_loadB hH 1 rfl (List.mem_singleton.2 rfl) Tryd.underlying3 rfl rfl (rkeyC_34 hsd))) rfl (listed' := #[true, true, true, true, true, true, true, true, true, true, true, true, true, true, true, true, true, true, true, true, true, true, false, false]) rfl ?_
                rintro _ _ ⟨rfl, rfl⟩
                have hS' := hH.pick [2, 3, 4] (Hs' := [_, _, _]) rfl
                replace hS := hS'; clear hS'
                refine ⟨fun _ _ => hS, ?_⟩
                intro a hA
                refine apgq hA 22 rfl (by kernel_rfl) rfl rfl (by intro c a d v w h; cases d <;> exact h) (fun w => (q_neqI rfl rfl)) rfl (listed' := #[true, true, true, true, true, true, true, true, true, true, true, true, true, true, true, true, true, true, true, true, true, true, true, false]) rfl fun a hA => ?_
                replace hA := hA.decF (by exact fun h => h rfl)
                refine apq hA 23 rfl (by kernel_rfl) (by intro c a d v w h; cases d <;> exact h) (fun w => (q_pick_f rfl rfl)) rfl (listed' := #[true, true, true, true, true, true, true, true, true, true, true, true, true, true, true, true, true, true, true, true, true, true, true, true]) rfl fun a hA => ?_
                refine a_end (by kernel_rfl) ?_ _
                refine hK20 _ _ ?_
                clear hK20
                refine cond_f hA rfl ?_
                refine wp_skip ?_
                refine hK19 _ _ ?_
                clear hK19
                refine wp_exit ?_
                refine then_exit ?_
                refine exit_here ?_
                refine hK13 _ _ ?_
                clear hK13
                refine wp_region_lit ?_
                refine sq hA (q_move rfl) rfl fun a hA => ?_
                refine sq hA (q_addI (n := 1) rfl rfl (by omega)) rfl fun a hA => ?_
                refine sq hA (q_assign rfl) rfl fun a hA => ?_
                refine wpList_nil ?_
                replace hH := hH.pick [0, 2, 3, 1, 4] (Hs' := [_, _, _, _, _]) rfl
                exact ⟨_, by omega, i + 1, (skT (2 ^ h) x (ac.getD i dA).2.1).2, hA.sub ⟨rfl, rfl, rfl, rfl, rfl, rfl, trivial⟩, hH, by omega, by first | omega | exact skT_le hxq, rfl⟩
              · skip
                refine oneGL hA 21 rfl rfl rfl (Runs.lo (q_loadB hH 0 rfl (List.mem_singleton.2 rfl) Tryd.underlying3 rfl rfl (rkeyC_34 hsd))) rfl (listed' := #[true, true, true, true, true, true, true, true, true, true, true, true, true, true, true, true, true, false, true, true, true, true, false, false]) rfl ?_
                rintro _ _ ⟨rfl, rfl⟩
                have hS' := hH.pick [2, 3, 4] (Hs' := [_, _, _]) rfl
                replace hS := hS'; clear hS'
                refine ⟨fun _ _ => hS, ?_⟩
                intro a hA
                replace hH := hH.pick [1, 0, 2, 3, 4] (Hs' := [_, _, _, _, _]) rfl
                refine agl hA 17 rfl (by kernel_rfl) rfl rfl (lo_call fn21 rfl (next7_any _ _ _ _ hPl _ _ _ hshp (by first | exact Nat.zero_le _ | omega | decide) (by first | assumption | omega | decide) (HS.handed (Ns1 := [_]) hH))) rfl (listed' := #[true, true, true, true, true, true, true, true, true, true, true, true, true, true, true, true, true, true, true, true, true, true, false, false]) rfl ?_
                rintro _ w ⟨rfl, hC⟩
                replace hH := HS.call (Ns1 := [_]) hH hC
                clear hC
                have hS' := hH.pick [2, 3, 4] (Hs' := [_, _, _]) rfl
                replace hS := hS'; clear hS'
                refine ⟨fun _ _ => hS, ?_⟩
                intro a hA
                refine apgq hA 22 rfl (by kernel_rfl) rfl rfl (by intro c a d v w h; cases d <;> exact h) (fun w => (q_neqI rfl rfl)) rfl (listed' := #[true, true, true, true, true, true, true, true, true, true, true, true, true, true, true, true, true, true, true, true, true, true, true, false]) rfl fun a hA => ?_
                replace hA := hA.decF (by exact fun h => h rfl)
                refine apq hA 23 rfl (by kernel_rfl) (by intro c a d v w h; cases d <;> exact h) (fun w => (q_pick_f rfl rfl)) rfl (listed' := #[true, true, true, true, true, true, true, true, true, true, true, true, true, true, true, true, true, true, true, true, true, true, true, true]) rfl fun a hA => ?_
                refine a_end (by kernel_rfl) ?_ _
                refine hK20 _ _ ?_
                clear hK20
                refine cond_f hA rfl ?_
                refine wp_skip ?_
                refine hK19 _ _ ?_
                clear hK19
                refine wp_exit ?_
                refine then_exit ?_
                refine exit_here ?_
                refine hK13 _ _ ?_
                clear hK13
                refine wp_region_lit ?_
                refine sq hA (q_move rfl) rfl fun a hA => ?_
                refine sq hA (q_addI (n := 1) rfl rfl (by omega)) rfl fun a hA => ?_
                refine sq hA (q_assign rfl) rfl fun a hA => ?_
                refine wpList_nil ?_
                replace hH := hH.pick [0, 2, 3, 1, 4] (Hs' := [_, _, _, _, _]) rfl
                exact ⟨_, by omega, i + 1, (skT (2 ^ h) x (ac.getD i dA).2.1).2, hA.sub ⟨rfl, rfl, rfl, rfl, rfl, rfl, trivial⟩, hH, by omega, by first | omega | exact skT_le hxq, rfl⟩
            · skip
              refine wp_skip ?_
              refine hK17 _ _ ?_
              clear hK17
              refine wp_seq_k fun K21 hK21 => ?_
              refine wp_region_lit ?_
              refine sq hA (q_move rfl) rfl fun a hA => ?_
              refine sq hA (q_move rfl) rfl fun a hA => ?_
              refine sq hA (q_move rfl) rfl fun a hA => ?_
              refine sq hA (q_idxk (i) Tryd.underlying48 ti50 rfl rfl (by first | omega | rfl) (Rd.shp hcs) (by first | omega | (simp; done) | (simp; omega) | (rw [List.length_map]; assumption) | assumption | rfl | (simp [*]; done) | (simp [*]; omega))) rfl fun a hA => ?_
              refine sq hA (q_fldE 2 Tryd.underlying50 rfl rfl ti24 rfl) rfl fun a hA => ?_
              refine sq hA (q_loadR Tryd.underlying24 rfl rfl (hH.rd hcs) (by omega) (hat i (by first | omega | (simp; done) | (simp; omega) | (rw [List.length_map]; assumption) | assumption | rfl | (simp [*]; done) | (simp [*]; omega))).2.2.1) rfl fun a hA => ?_
              refine sl hA (lo_call fn14 rfl (own7_any _ _ (hH.rd (hat (i) (by first | omega | (simp; done) | (simp; omega) | (rw [List.length_map]; assumption) | assumption | rfl | (simp [*]; done) | (simp [*]; omega))).2.2.2) (by first | omega | (simp; done) | (simp; omega)))) rfl ?_
              rintro _ w ⟨v_t95, N_t95, rfl, hO_t95, hC⟩ a hA
              replace hH := HS.call0 hH hC
              clear hC
              rcases Nat.lt_or_ge x (2 ^ h) with hx | hx
              · skip
                replace hH := hH.pick [1, 0, 2, 3, 4, 5] (Hs' := [_, _, _, _, _, _]) rfl
                refine sl hA (lo_call fn24 rfl (sign7_any (hg.mono0 hH) b_k b_s (hg.ng NG.nil hH) s hsd n h hR v_l (HS.boxDM (Ns1 := [_]) hH 1 rfl hsd) (Own.rdM hO_l (Ns1 := [_]) hH 2 rfl) x hx _ (ac.getD i dA).2.2 (Own.rdM hO_t95 (Ns1 := [_]) hH 0 rfl) (by first | omega | (simp; done) | (simp; omega)) (HS.handed (Ns1 := [_]) hH))) rfl ?_
                rintro _ w ⟨v_ot96, v_pt96, N_ot96, N_pt96, rfl, hOo_t96, hOp_t96, hC⟩ a hA
                replace hH := HS.call (Ns1 := [_]) hH hC
                clear hC
                have hdo_t96 := otsK_dg s n x (ac.getD i dA).2.2
                have hdp_t96 := pthK_dg s n (show x < 2 ^ h by first | assumption | omega | simp)
                have hlo_t96 := otsK_length s n x (ac.getD i dA).2.2
                have hlp_t96 := pthK_length s n h x
                refine sq hA (q_move rfl) rfl fun a hA => ?_
                refine sq hA (q_extract rfl rfl) rfl fun a hA => ?_
                refine sq hA (q_extract rfl rfl) rfl fun a hA => ?_
                refine sl hA (lo_allocA hH ti27) rfl ?_
                clear hH; rintro _ w ⟨b_t13, rfl, hH⟩ a hA
                refine s0 hA (lo_storeAm hH ti27 rfl rfl (rfl) (rfl) (ones_cons rfl (ones_cons (Own.one hOo_t96) (ones_cons (Own.one hOp_t96) ones_nil)))) ?_
                clear hH; rintro _ w hH
                refine sq hA (q_assign rfl) rfl fun a hA => ?_
                refine wpList_nil ?_
                refine hK21 _ _ ?_
                clear hK21
                refine wp_seq_k fun K22 hK22 => ?_
                refine wp_region_lit ?_
                refine sq hA (q_move rfl) rfl fun a hA => ?_
                refine sq hA (q_move rfl) rfl fun a hA => ?_
                refine sq hA (q_move rfl) rfl fun a hA => ?_
                refine sq hA (q_idxk (i) Tryd.underlying48 ti50 rfl rfl (by first | omega | rfl) (Rd.shp hcs) (by first | omega | (simp; done) | (simp; omega) | (rw [List.length_map]; assumption) | assumption | rfl | (simp [*]; done) | (simp [*]; omega))) rfl fun a hA => ?_
                refine sq hA (q_fldE 2 Tryd.underlying50 rfl rfl ti24 rfl) rfl fun a hA => ?_
                refine sq hA (q_loadR Tryd.underlying24 rfl rfl (hH.rd hcs) (by omega) (hat i (by first | omega | (simp; done) | (simp; omega) | (rw [List.length_map]; assumption) | assumption | rfl | (simp [*]; done) | (simp [*]; omega))).2.2.1) rfl fun a hA => ?_
                replace hH := hH.pick [7, 0, 1, 2, 3, 4, 5, 6, 8] (Hs' := [_, _, _, _, _, _, _, _, _]) rfl
                refine sl hA (lo_call fn26 rfl (refsign7_any (hg.mono0 hH) _ (hg.ng NG.nil hH) s hsd n h hR _ hx _ (ac.getD i dA).2.2 (HS.rdM (Ns1 := [_]) hH (hat (i) (by first | omega | (simp; done) | (simp; omega) | (rw [List.length_map]; assumption) | assumption | rfl | (simp [*]; done) | (simp [*]; omega))).2.2.2) (by first | omega | (simp; done) | (simp; omega)) (HS.handed (Ns1 := [_]) hH))) rfl ?_
                rintro _ w ⟨v_ot106, v_pt106, N_ot106, N_pt106, rfl, hOo_t106, hOp_t106, hC⟩ a hA
                replace hH := HS.call (Ns1 := [_]) hH hC
                clear hC
                refine sq hA (q_move rfl) rfl fun a hA => ?_
                refine sq hA (q_extract rfl rfl) rfl fun a hA => ?_
                refine sq hA (q_extract rfl rfl) rfl fun a hA => ?_
                refine sl hA (lo_allocA hH ti27) rfl ?_
                clear hH; rintro _ w ⟨b_t15, rfl, hH⟩ a hA
                refine s0 hA (lo_storeAm hH ti27 rfl rfl (rfl) (rfl) (ones_cons rfl (ones_cons (Own.one hOo_t106) (ones_cons (Own.one hOp_t106) ones_nil)))) ?_
                clear hH; rintro _ w hH
                refine sq hA (q_assign rfl) rfl fun a hA => ?_
                refine wpList_nil ?_
                refine hK22 _ _ ?_
                clear hK22
                refine wp_seq_k fun K23 hK23 => ?_
                refine any_go mixed (fun _ => true) hH ?_
                clear hH; intro w hH
                have hS := hH
                change wpK _ _ _ _ _ _ 18 #[false, false, false, false, false, false, false, false, false, false, false, false, false, false, false, false, false, false] _ _
                refine apq hA 0 rfl (by kernel_rfl) (by intro c a d v w h; cases d <;> exact h) (fun w => (q_move rfl)) rfl (listed' := #[true, false, false, false, false, false, false, false, false, false, false, false, false, false, false, false, false, false]) rfl fun a hA => ?_
                refine apq hA 1 rfl (by kernel_rfl) (by intro c a d v w h; cases d <;> exact h) (fun w => (q_move rfl)) rfl (listed' := #[true, true, false, false, false, false, false, false, false, false, false, false, false, false, false, false, false, false]) rfl fun a hA => ?_
                refine apq hA 2 rfl (by kernel_rfl) (by intro c a d v w h; cases d <;> exact h) (fun w => (q_neqI rfl rfl)) rfl (listed' := #[true, true, true, false, false, false, false, false, false, false, false, false, false, false, false, false, false, false]) rfl fun a hA => ?_
                replace hA := hA.decF (by exact fun h => h rfl)
                refine apq hA 3 rfl (by kernel_rfl) (by intro c a d v w h; cases d <;> exact h) (fun w => (q_move rfl)) rfl (listed' := #[true, true, true, true, false, false, false, false, false, false, false, false, false, false, false, false, false, false]) rfl fun a hA => ?_
                refine agq hA 4 rfl (by kernel_rfl) rfl rfl (by intro c a d v w h; cases d <;> exact h) hS (fun w hH => (q_loadW hH 4 rfl Tryd.underlying27 rfl ti27 rfl (by first | omega | (simp; done) | (simp; omega) | (rw [List.length_map]; assumption) | assumption | rfl | (simp [*]; done) | (simp [*]; omega)))) rfl (listed' := #[true, true, true, true, true, false, false, false, false, false, false, false, false, false, false, false, false, false]) rfl fun a hA => ?_
                refine agq hA 5 rfl (by kernel_rfl) rfl rfl (by intro c a d v w h; cases d <;> exact h) hS (fun w hH => (q_loadW hH 0 rfl Tryd.underlying27 rfl ti27 rfl (by first | omega | (simp; done) | (simp; omega) | (rw [List.length_map]; assumption) | assumption | rfl | (simp [*]; done) | (simp [*]; omega)))) rfl (listed' := #[true, true, true, true, true, true, false, false, false, false, false, false, false, false, false, false, false, false]) rfl fun a hA => ?_
                refine agl hA 6 rfl (by kernel_rfl) rfl rfl (lo_call fn27 rfl (same7_any _ _ _ _ _ (by first | assumption | exact Dg.nil) (by first | assumption | exact Dg.nil) (Own.rd0 hOo_t96 hH 6 rfl) (Own.rd0 hOp_t96 hH 7 rfl) (by first | omega | (simp; done) | (simp; omega)) (by first | omega | (simp; done) | (simp; omega)) _ _ _ _ _ (by first | assumption | exact Dg.nil) (by first | assumption | exact Dg.nil) (Own.rd0 hOo_t106 hH 2 rfl) (Own.rd0 hOp_t106 hH 3 rfl) (by first | omega | (simp; done) | (simp; omega)) (by first | omega | (simp; done) | (simp; omega)))) rfl (listed' := #[true, true, true, true, true, true, true, false, false, false, false, false, false, false, false, false, false, false]) rfl ?_
                rintro _ w ⟨rfl, hC⟩
                replace hH := HS.call0 hH hC
                clear hC
                have hS' := hH.pick [0, 1, 2, 3, 4, 5, 6, 7, 8, 9, 10, 11] (Hs' := [_, _, _, _, _, _, _, _, _, _, _, _]) rfl
                replace hS := hS'; clear hS'
                refine ⟨fun _ _ => hS, ?_⟩
                intro a hA
                replace hA := hA.decT (by exact ⟨rfl, rfl, rfl⟩)
                refine apgq hA 7 rfl (by kernel_rfl) rfl rfl (by intro c a d v w h; cases d <;> exact h) (fun w => (q_not rfl)) rfl (listed' := #[true, true, true, true, true, true, true, true, false, false, false, false, false, false, false, false, false, false]) rfl fun a hA => ?_
                refine apq hA 8 rfl (by kernel_rfl) (by intro c a d v w h; cases d <;> exact h) (fun w => (q_pick_f rfl rfl)) rfl (listed' := #[true, true, true, true, true, true, true, true, true, false, false, false, false, false, false, false, false, false]) rfl fun a hA => ?_
                refine apq hA 9 rfl (by kernel_rfl) (by intro c a d v w h; cases d <;> exact h) (fun w => (q_move rfl)) rfl (listed' := #[true, true, true, true, true, true, true, true, true, true, false, false, false, false, false, false, false, false]) rfl fun a hA => ?_
                refine apgq hA 10 rfl (by kernel_rfl) rfl rfl (by intro c a d v w h; cases d <;> exact h) (fun w => (q_move rfl)) rfl (listed' := #[true, true, true, true, true, true, true, true, true, true, true, false, false, false, false, false, false, false]) rfl fun a hA => ?_
                refine apgq hA 12 rfl (by kernel_rfl) rfl rfl (by intro c a d v w h; cases d <;> exact h) (fun w => (q_move rfl)) rfl (listed' := #[true, true, true, true, true, true, true, true, true, true, true, false, true, false, false, false, false, false]) rfl fun a hA => ?_
                refine apgq hA 13 rfl (by kernel_rfl) rfl rfl (by intro c a d v w h; cases d <;> exact h) (fun w => (q_nilCheck rfl)) rfl (listed' := #[true, true, true, true, true, true, true, true, true, true, true, false, true, true, false, false, false, false]) rfl fun a hA => ?_
                refine apgq hA 14 rfl (by kernel_rfl) rfl rfl (by intro c a d v w h; cases d <;> exact h) (fun w => (q_fld 34 Tryd.underlying39 rfl rfl ti3 rfl)) rfl (listed' := #[true, true, true, true, true, true, true, true, true, true, true, false, true, true, true, false, false, false]) rfl fun a hA => ?_
                refine agq hA 15 rfl (by kernel_rfl) rfl rfl (by intro c a d v w h; cases d <;> exact h) hS (fun w hH => (q_loadB hH 1 rfl (List.mem_singleton.2 rfl) Tryd.underlying3 rfl rfl (rkeyC_34 hsd))) rfl (listed' := #[true, true, true, true, true, true, true, true, true, true, true, false, true, true, true, true, false, false]) rfl fun a hA => ?_
                replace hH := hH.pick [5, 0, 1, 2, 3, 4, 6, 7, 8, 9, 10, 11] (Hs' := [_, _, _, _, _, _, _, _, _, _, _, _]) rfl
                refine agl hA 11 rfl (by kernel_rfl) rfl rfl (lo_call fn21 rfl (next7_any _ _ _ _ hPl _ _ _ hshp (by first | exact Nat.zero_le _ | omega | decide) (by first | assumption | omega | decide) (HS.handed (Ns1 := [_]) hH))) rfl (listed' := #[true, true, true, true, true, true, true, true, true, true, true, true, true, true, true, true, false, false]) rfl ?_
                rintro _ w ⟨rfl, hC⟩
                replace hH := HS.call (Ns1 := [_]) hH hC
                clear hC
                have hS' := hH.pick [1, 2, 3, 4, 5, 0, 6, 7, 8, 9, 10, 11] (Hs' := [_, _, _, _, _, _, _, _, _, _, _, _]) rfl
                replace hS := hS'; clear hS'
                refine ⟨fun _ _ => hS, ?_⟩
                intro a hA
                refine apgq hA 16 rfl (by kernel_rfl) rfl rfl (by intro c a d v w h; cases d <;> exact h) (fun w => (q_neqI rfl rfl)) rfl (listed' := #[true, true, true, true, true, true, true, true, true, true, true, true, true, true, true, true, true, false]) rfl fun a hA => ?_
                replace hA := hA.decF (by exact fun h => h rfl)
                refine apq hA 17 rfl (by kernel_rfl) (by intro c a d v w h; cases d <;> exact h) (fun w => (q_pick_f rfl rfl)) rfl (listed' := #[true, true, true, true, true, true, true, true, true, true, true, true, true, true, true, true, true, true]) rfl fun a hA => ?_
                refine a_end (by kernel_rfl) ?_ _
                refine hK23 _ _ ?_
                clear hK23
                refine cond_f hA rfl ?_
                refine wp_skip ?_
                refine block_normal ?_
                refine hK13 _ _ ?_
                clear hK13
                refine wp_region_lit ?_
                refine sq hA (q_move rfl) rfl fun a hA => ?_
                refine sq hA (q_addI (n := 1) rfl rfl (by omega)) rfl fun a hA => ?_
                refine sq hA (q_assign rfl) rfl fun a hA => ?_
                refine wpList_nil ?_
                replace hH := hH.pick [0, 9, 10, 2, 11, 1, 3, 4, 5, 6, 7, 8] (Hs' := [_, _, _, _, _, _, _, _, _, _, _, _]) rfl
                replace hH := hH.pick [0, 1, 2, 3, 4] (Hs' := [_, _, _, _, _]) rfl
                exact ⟨_, by omega, i + 1, x + 1, hA.sub ⟨rfl, rfl, rfl, rfl, rfl, rfl, trivial⟩, hH, by omega, by first | omega | exact skT_le hxq, rfl⟩
              · skip
                replace hx : x = 2 ^ h := by omega
                replace hH := hH.pick [1, 0, 2, 3, 4, 5] (Hs' := [_, _, _, _, _, _]) rfl
                refine sl hA (lo_call fn24 rfl (sign7_end (hg.mono0 hH) b_k b_s (hg.ng NG.nil hH) s hsd n h hR v_l (HS.boxDM (Ns1 := [_]) hH 1 rfl hsd) (Own.rdM hO_l (Ns1 := [_]) hH 2 rfl) x hx _ (HS.handed (Ns1 := [_]) hH))) rfl ?_
                rintro _ w ⟨rfl, hC⟩ a hA
                replace hH := HS.call (Ns1 := [_]) hH hC
                clear hC
                refine sq hA (q_move rfl) rfl fun a hA => ?_
                refine sq hA (q_extract rfl rfl) rfl fun a hA => ?_
                refine sq hA (q_extract rfl rfl) rfl fun a hA => ?_
                refine sl hA (lo_allocA hH ti27) rfl ?_
                clear hH; rintro _ w ⟨b_t13, rfl, hH⟩ a hA
                refine s0 hA (lo_storeAm hH ti27 rfl rfl (rfl) (rfl) (ones_cons rfl (ones_cons rfl (ones_cons rfl ones_nil)))) ?_
                clear hH; rintro _ w hH
                refine sq hA (q_assign rfl) rfl fun a hA => ?_
                refine wpList_nil ?_
                refine hK21 _ _ ?_
                clear hK21
                refine wp_seq_k fun K24 hK24 => ?_
                refine wp_region_lit ?_
                refine sq hA (q_move rfl) rfl fun a hA => ?_
                refine sq hA (q_move rfl) rfl fun a hA => ?_
                refine sq hA (q_move rfl) rfl fun a hA => ?_
                refine sq hA (q_idxk (i) Tryd.underlying48 ti50 rfl rfl (by first | omega | rfl) (Rd.shp hcs) (by first | omega | (simp; done) | (simp; omega) | (rw [List.length_map]; assumption) | assumption | rfl | (simp [*]; done) | (simp [*]; omega))) rfl fun a hA => ?_
                refine sq hA (q_fldE 2 Tryd.underlying50 rfl rfl ti24 rfl) rfl fun a hA => ?_
                refine sq hA (q_loadR Tryd.underlying24 rfl rfl (hH.rd hcs) (by omega) (hat i (by first | omega | (simp; done) | (simp; omega) | (rw [List.length_map]; assumption) | assumption | rfl | (simp [*]; done) | (simp [*]; omega))).2.2.1) rfl fun a hA => ?_
                replace hH := hH.pick [5, 0, 1, 2, 3, 4, 6] (Hs' := [_, _, _, _, _, _, _]) rfl
                refine sl hA (lo_call fn26 rfl (refsign7_end (hg.mono0 hH) _ (hg.ng NG.nil hH) s hsd n h hR _ hx _ (HS.handed (Ns1 := [_]) hH))) rfl ?_
                rintro _ w ⟨rfl, hC⟩ a hA
                replace hH := HS.call (Ns1 := [_]) hH hC
                clear hC
                refine sq hA (q_move rfl) rfl fun a hA => ?_
                refine sq hA (q_extract rfl rfl) rfl fun a hA => ?_
                refine sq hA (q_extract rfl rfl) rfl fun a hA => ?_
                refine sl hA (lo_allocA hH ti27) rfl ?_
                clear hH; rintro _ w ⟨b_t15, rfl, hH⟩ a hA
                refine s0 hA (lo_storeAm hH ti27 rfl rfl (rfl) (rfl) (ones_cons rfl (ones_cons rfl (ones_cons rfl ones_nil)))) ?_
                clear hH; rintro _ w hH
                refine sq hA (q_assign rfl) rfl fun a hA => ?_
                refine wpList_nil ?_
                refine hK24 _ _ ?_
                clear hK24
                refine wp_seq_k fun K25 hK25 => ?_
                refine any_go mixed (fun _ => true) hH ?_
                clear hH; intro w hH
                have hS := hH
                change wpK _ _ _ _ _ _ 18 #[false, false, false, false, false, false, false, false, false, false, false, false, false, false, false, false, false, false] _ _
                refine apq hA 0 rfl (by kernel_rfl) (by intro c a d v w h; cases d <;> exact h) (fun w => (q_move rfl)) rfl (listed' := #[true, false, false, false, false, false, false, false, false, false, false, false, false, false, false, false, false, false]) rfl fun a hA => ?_
                refine apq hA 1 rfl (by kernel_rfl) (by intro c a d v w h; cases d <;> exact h) (fun w => (q_move rfl)) rfl (listed' := #[true, true, false, false, false, false, false, false, false, false, false, false, false, false, false, false, false, false]) rfl fun a hA => ?_
                refine apq hA 2 rfl (by kernel_rfl) (by intro c a d v w h; cases d <;> exact h) (fun w => (q_neqI rfl rfl)) rfl (listed' := #[true, true, true, false, false, false, false, false, false, false, false, false, false, false, false, false, false, false]) rfl fun a hA => ?_
                replace hA := hA.decF (by exact fun h => h rfl)
                refine apq hA 3 rfl (by kernel_rfl) (by intro c a d v w h; cases d <;> exact h) (fun w => (q_move rfl)) rfl (listed' := #[true, true, true, true, false, false, false, false, false, false, false, false, false, false, false, false, false, false]) rfl fun a hA => ?_
                refine agq hA 4 rfl (by kernel_rfl) rfl rfl (by intro c a d v w h; cases d <;> exact h) hS (fun w hH => (q_loadW hH 2 rfl Tryd.underlying27 rfl ti27 rfl (by first | omega | (simp; done) | (simp; omega) | (rw [List.length_map]; assumption) | assumption | rfl | (simp [*]; done) | (simp [*]; omega)))) rfl (listed' := #[true, true, true, true, true, false, false, false, false, false, false, false, false, false, false, false, false, false]) rfl fun a hA => ?_
                refine agq hA 5 rfl (by kernel_rfl) rfl rfl (by intro c a d v w h; cases d <;> exact h) hS (fun w hH => (q_loadW hH 0 rfl Tryd.underlying27 rfl ti27 rfl (by first | omega | (simp; done) | (simp; omega) | (rw [List.length_map]; assumption) | assumption | rfl | (simp [*]; done) | (simp [*]; omega)))) rfl (listed' := #[true, true, true, true, true, true, false, false, false, false, false, false, false, false, false, false, false, false]) rfl fun a hA => ?_
                refine agl hA 6 rfl (by kernel_rfl) rfl rfl (lo_call fn27 rfl (same7_any _ _ _ _ _ (by first | assumption | exact Dg.nil) (by first | assumption | exact Dg.nil) RdD.nilV RdD.nilV (by first | omega | (simp; done) | (simp; omega)) (by first | omega | (simp; done) | (simp; omega)) _ _ _ _ _ (by first | assumption | exact Dg.nil) (by first | assumption | exact Dg.nil) RdD.nilV RdD.nilV (by first | omega | (simp; done) | (simp; omega)) (by first | omega | (simp; done) | (simp; omega)))) rfl (listed' := #[true, true, true, true, true, true, true, false, false, false, false, false, false, false, false, false, false, false]) rfl ?_
                rintro _ w ⟨rfl, hC⟩
                replace hH := HS.call0 hH hC
                clear hC
                have hS' := hH.pick [0, 1, 2, 3, 4, 5, 6, 7] (Hs' := [_, _, _, _, _, _, _, _]) rfl
                replace hS := hS'; clear hS'
                refine ⟨fun _ _ => hS, ?_⟩
                intro a hA
                replace hA := hA.decT (by exact ⟨rfl, rfl, rfl⟩)
                refine apgq hA 7 rfl (by kernel_rfl) rfl rfl (by intro c a d v w h; cases d <;> exact h) (fun w => (q_not rfl)) rfl (listed' := #[true, true, true, true, true, true, true, true, false, false, false, false, false, false, false, false, false, false]) rfl fun a hA => ?_
                refine apq hA 8 rfl (by kernel_rfl) (by intro c a d v w h; cases d <;> exact h) (fun w => (q_pick_f rfl rfl)) rfl (listed' := #[true, true, true, true, true, true, true, true, true, false, false, false, false, false, false, false, false, false]) rfl fun a hA => ?_
                refine apq hA 9 rfl (by kernel_rfl) (by intro c a d v w h; cases d <;> exact h) (fun w => (q_move rfl)) rfl (listed' := #[true, true, true, true, true, true, true, true, true, true, false, false, false, false, false, false, false, false]) rfl fun a hA => ?_
                refine apgq hA 10 rfl (by kernel_rfl) rfl rfl (by intro c a d v w h; cases d <;> exact h) (fun w => (q_move rfl)) rfl (listed' := #[true, true, true, true, true, true, true, true, true, true, true, false, false, false, false, false, false, false]) rfl fun a hA => ?_
                refine apgq hA 12 rfl (by kernel_rfl) rfl rfl (by intro c a d v w h; cases d <;> exact h) (fun w => (q_move rfl)) rfl (listed' := #[true, true, true, true, true, true, true, true, true, true, true, false, true, false, false, false, false, false]) rfl fun a hA => ?_
                refine apgq hA 13 rfl (by kernel_rfl) rfl rfl (by intro c a d v w h; cases d <;> exact h) (fun w => (q_nilCheck rfl)) rfl (listed' := #[true, true, true, true, true, true, true, true, true, true, true, false, true, true, false, false, false, false]) rfl fun a hA => ?_
                refine apgq hA 14 rfl (by kernel_rfl) rfl rfl (by intro c a d v w h; cases d <;> exact h) (fun w => (q_fld 34 Tryd.underlying39 rfl rfl ti3 rfl)) rfl (listed' := #[true, true, true, true, true, true, true, true, true, true, true, false, true, true, true, false, false, false]) rfl fun a hA => ?_
                refine agq hA 15 rfl (by kernel_rfl) rfl rfl (by intro c a d v w h; cases d <;> exact h) hS (fun w hH => (q_loadB hH 1 rfl (List.mem_singleton.2 rfl) Tryd.underlying3 rfl rfl (rkeyC_34 hsd))) rfl (listed' := #[true, true, true, true, true, true, true, true, true, true, true, false, true, true, true, true, false, false]) rfl fun a hA => ?_
                replace hH := hH.pick [3, 0, 1, 2, 4, 5, 6, 7] (Hs' := [_, _, _, _, _, _, _, _]) rfl
                refine agl hA 11 rfl (by kernel_rfl) rfl rfl (lo_call fn21 rfl (next7_any _ _ _ _ hPl _ _ _ hshp (by first | exact Nat.zero_le _ | omega | decide) (by first | assumption | omega | decide) (HS.handed (Ns1 := [_]) hH))) rfl (listed' := #[true, true, true, true, true, true, true, true, true, true, true, true, true, true, true, true, false, false]) rfl ?_
                rintro _ w ⟨rfl, hC⟩
                replace hH := HS.call (Ns1 := [_]) hH hC
                clear hC
                have hS' := hH.pick [1, 2, 3, 0, 4, 5, 6, 7] (Hs' := [_, _, _, _, _, _, _, _]) rfl
                replace hS := hS'; clear hS'
                refine ⟨fun _ _ => hS, ?_⟩
                intro a hA
                refine apgq hA 16 rfl (by kernel_rfl) rfl rfl (by intro c a d v w h; cases d <;> exact h) (fun w => (q_neqI rfl rfl)) rfl (listed' := #[true, true, true, true, true, true, true, true, true, true, true, true, true, true, true, true, true, false]) rfl fun a hA => ?_
                replace hA := hA.decF (by exact fun h => h rfl)
                refine apq hA 17 rfl (by kernel_rfl) (by intro c a d v w h; cases d <;> exact h) (fun w => (q_pick_f rfl rfl)) rfl (listed' := #[true, true, true, true, true, true, true, true, true, true, true, true, true, true, true, true, true, true]) rfl fun a hA => ?_
                refine a_end (by kernel_rfl) ?_ _
                refine hK25 _ _ ?_
                clear hK25
                refine cond_f hA rfl ?_
                refine wp_skip ?_
                refine block_normal ?_
                refine hK13 _ _ ?_
                clear hK13
                refine wp_region_lit ?_
                refine sq hA (q_move rfl) rfl fun a hA => ?_
                refine sq hA (q_addI (n := 1) rfl rfl (by omega)) rfl fun a hA => ?_
                refine sq hA (q_assign rfl) rfl fun a hA => ?_
                refine wpList_nil ?_
                replace hH := hH.pick [0, 5, 6, 2, 7, 1, 3, 4] (Hs' := [_, _, _, _, _, _, _, _]) rfl
                replace hH := hH.pick [0, 1, 2, 3, 4] (Hs' := [_, _, _, _, _]) rfl
                exact ⟨_, by omega, i + 1, x, hA.sub ⟨rfl, rfl, rfl, rfl, rfl, rfl, trivial⟩, hH, by omega, by first | omega | exact skT_le hxq, rfl⟩
        · skip
          refine wp_exit ?_
          refine then_exit ?_
          replace hH := HS.unfold [_, _, _, _] hNR10 hH
          refine then_exit ?_
          refine exit_here ?_
          refine hK8 _ _ ?_
          clear hK8
          replace hA := hA.sub (E' := [(10, _), (8, _)]) ⟨rfl, rfl, trivial⟩
          refine wp_seq_k fun K26 hK26 => ?_
          refine wp_region_lit ?_
          refine sq hA (q_move rfl) rfl fun a hA => ?_
          refine sq hA (q_eqlI (n := 0) rfl rfl) rfl fun a hA => ?_
          replace hA := hA.decT (by first | rfl | omega | assumption | (simp; done) | (simp [*]; done))
          refine sq hA (q_move rfl) rfl fun a hA => ?_
          refine gl hA rfl rfl (lo_call fn12 rfl (awake7_any (hg.mono0 hH))) rfl ?_
          rintro _ w ⟨rfl, hC⟩ a hA
          replace hH := HS.call0 hH hC
          clear hC
          refine sq hA (q_pick_t rfl rfl) rfl fun a hA => ?_
          refine sq hA (q_assign rfl) rfl fun a hA => ?_
          refine wpList_nil ?_
          refine hK26 _ _ ?_
          clear hK26
          replace hA := hA.sub (E' := [(8, _)]) ⟨rfl, trivial⟩
          refine wp_ret ?_
          refine post_ret hA (res_1 rfl hA rfl) ?_
          replace hH := hH.pick [] (Hs' := []) rfl
          exact ⟨_, rfl, rfl, hH⟩
    · skip
      refine gq hA rfl rfl (q_not rfl) rfl fun a hA => ?_
      refine sq hA (q_pick_f rfl rfl) rfl fun a hA => ?_
      refine sq hA (q_move rfl) rfl fun a hA => ?_
      refine gs hA rfl rfl rfl rfl fun a hA => ?_
      refine gs hA rfl rfl rfl rfl fun a hA => ?_
      refine gs hA rfl rfl rfl rfl fun a hA => ?_
      refine sq hA (q_pick_t rfl rfl) rfl fun a hA => ?_
      refine wpList_nil ?_
      refine hK3 _ _ ?_
      clear hK3
      replace hA := hA.sub (E' := [(30, _), (8, _), (4, _), (1, _), (2, _), (3, _)]) ⟨rfl, rfl, rfl, rfl, rfl, rfl, trivial⟩
      refine cond_t hA rfl ?_
      refine wp_seq_k fun K27 hK27 => ?_
      refine wp_region_lit ?_
      refine sl hA (lo_call fn12 rfl (awake7_any (hg.mono0 hH))) rfl ?_
      rintro _ w ⟨rfl, hC⟩ a hA
      replace hH := HS.call0 hH hC
      clear hC
      refine sq hA (q_assign rfl) rfl fun a hA => ?_
      refine wpList_nil ?_
      refine hK27 _ _ ?_
      clear hK27
      replace hA := hA.sub (E' := [(8, _), (4, _), (1, _), (2, _), (3, _)]) ⟨rfl, rfl, rfl, rfl, rfl, trivial⟩
      refine wp_ret ?_
      refine then_ret ?_
      refine post_ret hA (res_1 rfl hA rfl) ?_
      replace hH := hH.pick [] (Hs' := []) rfl
      exact ⟨_, rfl, rfl, hH⟩

end Go.Proofs.YtipjpbfledddaaaDoor
