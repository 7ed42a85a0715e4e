/- Layer 7 (keys): the document's key. -/
import Derived.Test.YtipjpbfledddaaaDoorHa
import Derived.Test.YtipjpbfledddaaaDoorMp
import Derived.Test.YtipjpbfledddaaaDoorCi
import Derived.Test.YtipjpbfledddaaaDoorDb
namespace Go.Proofs.YtipjpbfledddaaaDoor
open Go
set_option linter.unusedVariables false
set_option linter.unusedSimpArgs false
set_option maxRecDepth 100000

theorem refleaves_any {w0 : World} {lv : Nat} (hg : Gl (lv + 2) w0) (b_m : Nat) (hgM : NG (lv + 2) [b_m]) (s : Bs) (hsd : s.length = 32) (n h : Nat) (hn : R7 n h) (x : Nat)  (hH : HS [b_m] w0 w0 [[(b_m, Obj.cells (rkeyC s n h x).toArray 39 (0, 0))]]) :
    Calls Tryd.prog 45 #[(.pointer (some ⟨b_m, 0, none⟩))] w0 (Ret fun r w' => ∃ v' N, v' = r ∧ OwD 23 v' (leavesK s n (2 ^ h)) N ∧ HS [b_m] w0 w' [[(b_m, Obj.cells (rkeyC s n h x).toArray 39 (0, 0))], N]) := by
  refine start (n := 36) (E := [(0, _)]) Tryd.func45 rfl rfl rfl (args_look rfl) ?_
  intro a hA
  have hn5 := hn.1
  have hn1 := hn.1.1
  have hn2 := hn.1.2
  have hh6 : h ≤ 6 := by have := hn.2.2; omega
  have h64 := pow_le64 hh6
  have hp0 : 0 < 2 ^ h := Nat.pow_pos (by decide)
  have hPl := pubK_length s n h
  refine wp_seq_k fun K1 hK1 => ?_
  refine wp_region_lit ?_
  refine sq hA (q_assign rfl) rfl fun a hA => ?_
  refine wpList_nil ?_
  refine hK1 _ _ ?_
  clear hK1
  refine wp_seq_k fun K2 hK2 => ?_
  refine wp_region_lit ?_
  refine sq hA (q_assign rfl) rfl fun a hA => ?_
  refine wpList_nil ?_
  refine hK2 _ _ ?_
  clear hK2
  refine wp_seq_k fun K3 hK3 => ?_
  refine wp_seq_k fun K4 hK4 => ?_
  refine wp_region_lit ?_
  refine sq hA (q_assign rfl) rfl fun a hA => ?_
  refine wpList_nil ?_
  refine hK4 _ _ ?_
  clear hK4
  refine wp_block ?_
  replace hH := hH.nilFront
  refine wp_loop_ghost (fun gm a w => ∃ i : Nat, ∃ v_o : Value, ∃ N_o : Hl, At 36 [(4, I i), (3, v_o), (2, (.slice none 0 0)), (0, (.pointer (some ⟨b_m, 0, none⟩)))] a ∧ HS [b_m] w0 w ([N_o, [(b_m, Obj.cells (rkeyC s n h x).toArray 39 (0, 0))]]) ∧ (i ≤ 2 ^ h) ∧ (OwD 23 v_o (leavesK s n i) N_o) ∧ gm = 2 ^ h - i) (2 ^ h - (0)) ⟨0, nilV, [], hA.sub ⟨rfl, rfl, rfl, rfl, trivial⟩, hH, by omega, by exact OwD.nil _, rfl⟩ ?_
  clear hA hH
  rintro gm a w ⟨i, v_o, N_o, hA, hH, hi, hO_o, rfl⟩
  refine wp_seq_k fun K5 hK5 => ?_
  refine wp_seq_k fun K6 hK6 => ?_
  refine wp_region_lit ?_
  refine sq hA (q_move rfl) rfl fun a hA => ?_
  refine sq hA (q_move rfl) rfl fun a hA => ?_
  refine sq hA (q_nilCheck rfl) rfl fun a hA => ?_
  refine sq hA (q_fld 33 Tryd.underlying39 rfl rfl ti3 rfl) rfl fun a hA => ?_
  refine sq hA (q_loadB hH 1 rfl (List.mem_singleton.2 rfl) Tryd.underlying3 rfl rfl (rkeyC_33 hsd)) rfl fun a hA => ?_
  refine sq hA (q_shlI (m := 1) (n := h) ((2 ^ h : Nat) : Int) rfl rfl (by omega) (by push_cast; rfl) (by omega)) rfl fun a hA => ?_
  rw [Int.one_mul] at hA
  refine sq hA (q_lssI rfl rfl) rfl fun a hA => ?_
  refine wpList_nil ?_
  refine hK6 _ _ ?_
  clear hK6
  refine cond_d hA rfl (fun hc13 => ?_) (fun hc13 => ?_)
  · skip
    refine wp_skip ?_
    refine hK5 _ _ ?_
    clear hK5
    refine wp_seq_k fun K7 hK7 => ?_
    refine wp_block ?_
    refine wp_seq_k fun K8 hK8 => ?_
    refine any_go mixed (fun _ => true) hH ?_
    clear hH; intro w hH
    have hS := hH
    change wpK _ _ _ _ _ _ 16 #[false, false, false, false, false, false, false, false, false, false, false, false, false, false, false, false] _ _
    refine apq hA 0 rfl (by kernel_rfl) (by intro c a d v w h; cases d <;> exact h) (fun w => (q_move rfl)) rfl (listed' := #[true, false, false, false, false, false, false, false, false, false, false, false, false, false, false, false]) rfl fun a hA => ?_
    refine apq hA 1 rfl (by kernel_rfl) (by intro c a d v w h; cases d <;> exact h) (fun w => (q_nilCheck rfl)) rfl (listed' := #[true, true, false, false, false, false, false, false, false, false, false, false, false, false, false, false]) rfl fun a hA => ?_
    refine apq hA 2 rfl (by kernel_rfl) (by intro c a d v w h; cases d <;> exact h) (fun w => (q_fld 0 Tryd.underlying39 rfl rfl ti23 rfl)) rfl (listed' := #[true, true, true, false, false, false, false, false, false, false, false, false, false, false, false, false]) rfl fun a hA => ?_
    refine aq hA 3 rfl (by kernel_rfl) (by intro c a d v w h; cases d <;> exact h) hS (fun w hH => (q_loadBA hH 1 rfl (List.mem_singleton.2 rfl) Tryd.underlying23 rfl ti23 rfl _ (rkeyC_seed hsd) (by simp [hsd]))) rfl (listed' := #[true, true, true, true, false, false, false, false, false, false, false, false, false, false, false, false]) rfl fun a hA => ?_
    refine apq hA 4 rfl (by kernel_rfl) (by intro c a d v w h; cases d <;> exact h) (fun w => (q_move rfl)) rfl (listed' := #[true, true, true, true, true, false, false, false, false, false, false, false, false, false, false, false]) rfl fun a hA => ?_
    refine apq hA 6 rfl (by kernel_rfl) (by intro c a d v w h; cases d <;> exact h) (fun w => (q_move rfl)) rfl (listed' := #[true, true, true, true, true, false, true, false, false, false, false, false, false, false, false, false]) rfl fun a hA => ?_
    refine apq hA 7 rfl (by kernel_rfl) (by intro c a d v w h; cases d <;> exact h) (fun w => (q_nilCheck rfl)) rfl (listed' := #[true, true, true, true, true, false, true, true, false, false, false, false, false, false, false, false]) rfl fun a hA => ?_
    refine apq hA 8 rfl (by kernel_rfl) (by intro c a d v w h; cases d <;> exact h) (fun w => (q_fld 32 Tryd.underlying39 rfl rfl ti3 rfl)) rfl (listed' := #[true, true, true, true, true, false, true, true, true, false, false, false, false, false, false, false]) rfl fun a hA => ?_
    refine aq hA 9 rfl (by kernel_rfl) (by intro c a d v w h; cases d <;> exact h) hS (fun w hH => (q_loadB hH 1 rfl (List.mem_singleton.2 rfl) Tryd.underlying3 rfl rfl (rkeyC_32 hsd))) rfl (listed' := #[true, true, true, true, true, false, true, true, true, true, false, false, false, false, false, false]) rfl fun a hA => ?_
    refine al hA 5 rfl (by kernel_rfl) (lo_call fn49 rfl (refseed_any (hg.mono hH hgM) _ _ _ (by first | assumption | (rw [List.length_map]; assumption) | rfl | exact sha_length _ | (simp; done) | (simp [*]; done) | omega) (by decide))) rfl (listed' := #[true, true, true, true, true, true, true, true, true, true, false, false, false, false, false, false]) rfl ?_
    rintro _ w ⟨rfl, hC⟩
    replace hH := HS.call0 hH hC
    clear hC
    have hS' := hH.pick [0, 1] (Hs' := [_, _]) rfl
    replace hS := hS'; clear hS'
    refine ⟨fun _ _ => hS, ?_⟩
    intro a hA
    refine al hA 10 rfl (by kernel_rfl) (lo_call fn80 rfl (refpublic_any (hg.mono hH hgM) _ (by first | assumption | (rw [List.length_map]; assumption) | rfl | exact sha_length _ | (simp; done) | (simp [*]; done) | omega) _ hn5)) rfl (listed' := #[true, true, true, true, true, true, true, true, true, true, true, false, false, false, false, false]) rfl ?_
    rintro _ w ⟨v_t27, N_t27, rfl, hO_t27, hC⟩
    replace hH := HS.call0 hH hC
    clear hC
    have hS' := hH.pick [1, 2] (Hs' := [_, _]) rfl
    replace hS := hS'; clear hS'
    refine ⟨fun _ _ => hS, ?_⟩
    intro a hA
    refine apq hA 11 rfl (by kernel_rfl) (by intro c a d v w h; cases d <;> exact h) (fun w => (q_move rfl)) rfl (listed' := #[true, true, true, true, true, true, true, true, true, true, true, true, false, false, false, false]) rfl fun a hA => ?_
    refine apq hA 12 rfl (by kernel_rfl) (by intro c a d v w h; cases d <;> exact h) (fun w => (q_extract rfl rfl)) rfl (listed' := #[true, true, true, true, true, true, true, true, true, true, true, true, true, false, false, false]) rfl fun a hA => ?_
    refine apq hA 13 rfl (by kernel_rfl) (by intro c a d v w h; cases d <;> exact h) (fun w => (q_extract rfl rfl)) rfl (listed' := #[true, true, true, true, true, true, true, true, true, true, true, true, true, true, false, false]) rfl fun a hA => ?_
    refine apq hA 14 rfl (by kernel_rfl) (by intro c a d v w h; cases d <;> exact h) (fun w => (q_assign rfl)) rfl (listed' := #[true, true, true, true, true, true, true, true, true, true, true, true, true, true, true, false]) rfl fun a hA => ?_
    refine apq hA 15 rfl (by kernel_rfl) (by intro c a d v w h; cases d <;> exact h) (fun w => (q_assign rfl)) rfl (listed' := #[true, true, true, true, true, true, true, true, true, true, true, true, true, true, true, true]) rfl fun a hA => ?_
    refine a_end (by kernel_rfl) ?_ _
    refine hK8 _ _ ?_
    clear hK8
    replace hA := hA.sub (E' := [(5, _), (29, _), (28, _), (16, _), (27, _), (22, _), (26, _), (25, _), (24, _), (23, _), (21, _), (20, _), (19, _), (18, _), (17, _), (13, _), (12, _), (11, _), (10, _), (9, _), (8, _), (7, _), (4, _), (3, _), (2, _), (0, _)]) ⟨rfl, rfl, rfl, rfl, rfl, rfl, rfl, rfl, rfl, rfl, rfl, rfl, rfl, rfl, rfl, rfl, rfl, rfl, rfl, rfl, rfl, rfl, rfl, rfl, rfl, rfl, trivial⟩
    refine wp_region_lit ?_
    refine sq hA (q_move rfl) rfl fun a hA => ?_
    refine sq hA (q_move rfl) rfl fun a hA => ?_
    refine sl hA (lo_call fn68 rfl (reforoot_any (hg.mono hH hgM) _ _ (by first | assumption | exact pubV_dg _ _) (Own.rd0 hO_t27 hH 0 rfl) (by first | omega | (simp; omega) | (rw [pubV_length]; omega)))) rfl ?_
    rintro _ w ⟨rfl, hC⟩ a hA
    replace hH := HS.call0 hH hC
    clear hC
    refine sl hA (lo_buildD (ls := [_]) hH Tryd.underlying25 ti23 rfl rfl rfl (by decide) (by decide) (by first | assumption | exact Dg.one (by first | assumption | (rw [List.length_map]; assumption) | rfl | exact sha_length _ | (simp; done) | (simp [*]; done) | omega) | exact Dg.two (by first | assumption | (rw [List.length_map]; assumption) | rfl | exact sha_length _ | (simp; done) | (simp [*]; done) | omega) (by first | assumption | (rw [List.length_map]; assumption) | rfl | exact sha_length _ | (simp; done) | (simp [*]; done) | omega))) rfl ?_
    clear hH; rintro v_t33 w ⟨N_t33, hO_t33, hH⟩ a hA
    replace hH := hH.pick [2, 0, 1, 3] (Hs' := [_, _, _, _]) rfl
    refine sl hA (lo_appD hH Tryd.underlying25 Tryd.underlying25 (.inl rfl) ti23 rfl rfl rfl hO_o (Own.rd0 hO_t33 hH 1 rfl) (by first | omega | (simp; omega)) (by first | omega | (simp; omega))) rfl ?_
    clear hH; rintro v_t34 w ⟨N_t34, hO_t34, hH⟩ a hA
    refine sq hA (q_assign rfl) rfl fun a hA => ?_
    refine wpList_nil ?_
    refine block_normal ?_
    refine hK7 _ _ ?_
    clear hK7
    refine wp_region_lit ?_
    refine sq hA (q_move rfl) rfl fun a hA => ?_
    refine sq hA (q_addI (n := 1) rfl rfl (by omega)) rfl fun a hA => ?_
    refine sq hA (q_assign rfl) rfl fun a hA => ?_
    refine wpList_nil ?_
    replace hH := hH.pick [0, 3, 1, 2] (Hs' := [_, _, _, _]) rfl
    replace hH := hH.pick [0, 1] (Hs' := [_, _]) rfl
    exact ⟨_, by omega, i + 1, v_t34, N_t34, hA.sub ⟨rfl, rfl, rfl, rfl, trivial⟩, hH, by omega, by (rw [leavesK_succ]; exact hO_t34), rfl⟩
  · skip
    obtain rfl : i = 2 ^ h := by omega
    refine wp_exit ?_
    refine then_exit ?_
    refine then_exit ?_
    refine exit_here ?_
    refine hK3 _ _ ?_
    clear hK3
    replace hA := hA.sub (E' := [(3, _), (2, _)]) ⟨rfl, rfl, trivial⟩
    refine wp_seq_k fun K9 hK9 => ?_
    refine wp_region_lit ?_
    refine sq hA (q_move rfl) rfl fun a hA => ?_
    refine sq hA (q_assign rfl) rfl fun a hA => ?_
    refine wpList_nil ?_
    refine hK9 _ _ ?_
    clear hK9
    replace hA := hA.sub (E' := [(2, _)]) ⟨rfl, trivial⟩
    refine wp_ret ?_
    refine post_ret hA (res_1 rfl hA rfl) ?_
    replace hH := hH.pick [1, 0] (Hs' := [_, _]) rfl
    exact ⟨_, rfl, v_o, N_o, rfl, hO_o, hH⟩

theorem refpub7_any {w0 : World} {lv : Nat} (hg : Gl (lv + 2) w0) (b_m : Nat) (hgM : NG (lv + 2) [b_m]) (s : Bs) (hsd : s.length = 32) (n h : Nat) (hn : R7 n h) (x : Nat)  (hH : HS [b_m] w0 w0 [[(b_m, Obj.cells (rkeyC s n h x).toArray 39 (0, 0))]]) :
    Calls Tryd.prog 20 #[(.pointer (some ⟨b_m, 0, none⟩))] w0 (Ret fun r w' => r = (.agg ((pubK s n h).map B8).toArray) ∧ HS [b_m] w0 w' [[(b_m, Obj.cells (rkeyC s n h x).toArray 39 (0, 0))]]) := by
  refine start (n := 12) (E := [(0, _)]) Tryd.func20 rfl rfl rfl (args_look rfl) ?_
  intro a hA
  have hn5 := hn.1
  have hn1 := hn.1.1
  have hn2 := hn.1.2
  have hh6 : h ≤ 6 := by have := hn.2.2; omega
  have h64 := pow_le64 hh6
  have hp0 : 0 < 2 ^ h := Nat.pow_pos (by decide)
  have hPl := pubK_length s n h
  refine wp_seq_k fun K1 hK1 => ?_
  refine wp_region_lit ?_
  refine sl hA (lo_allocA hH ti23) rfl ?_
  clear hH; rintro _ w ⟨b_t2, rfl, hH⟩ a hA
  refine wpList_nil ?_
  refine hK1 _ _ ?_
  clear hK1
  refine wp_seq_k fun K2 hK2 => ?_
  refine wp_region_lit ?_
  refine sq hA (q_move rfl) rfl fun a hA => ?_
  replace hH := hH.pick [1, 0] (Hs' := [_, _]) rfl
  refine sl hA (lo_call fn45 rfl (refleaves_any (hg.mono hH hgM) b_m (hg.ng hgM hH) s hsd n h hn _ (HS.handed (Ns1 := [_]) hH))) rfl ?_
  rintro _ w ⟨v_t7, N_t7, rfl, hO_t7, hC⟩ a hA
  replace hH := HS.call (Ns1 := [_]) hH hC
  clear hC
  refine sl hA (lo_call fn44 rfl (refroot_any (hg.mono hH hgM) _ _ (leavesK_dg s n _) (Own.rd0 hO_t7 hH 1 rfl) h (show h ≤ 10 by omega) (leavesK_length s n _))) rfl ?_
  rintro _ w ⟨rfl, hC⟩ a hA
  replace hH := HS.call0 hH hC
  clear hC
  refine sq hA (q_move rfl) rfl fun a hA => ?_
  refine sq hA (q_extract rfl rfl) rfl fun a hA => ?_
  refine sq hA (q_extract rfl rfl) rfl fun a hA => ?_
  refine sl hA (lo_allocA hH ti23) rfl ?_
  clear hH; rintro _ w ⟨b_t3, rfl, hH⟩ a hA
  refine s0 hA (lo_storeAm hH ti23 rfl rfl (by first | rfl | (simp; done) | (rw [List.length_map]; exact hPl)) (by first | rfl | (simp; done) | (rw [List.length_map]; exact hPl)) (one_B8 _)) ?_
  clear hH; rintro _ w hH
  refine sq hA (q_assign rfl) rfl fun a hA => ?_
  refine wpList_nil ?_
  refine hK2 _ _ ?_
  clear hK2
  replace hA := hA.sub (E' := [(3, _), (2, _)]) ⟨rfl, rfl, trivial⟩
  refine wp_seq_k fun K3 hK3 => ?_
  refine wp_region_lit ?_
  refine sq hA (q_loadW hH 0 rfl Tryd.underlying23 rfl ti23 rfl (by first | omega | (simp; done) | (simp; omega) | (rw [List.length_map]; assumption) | assumption | rfl | (simp [*]; done) | (simp [*]; omega))) rfl fun a hA => ?_
  replace hH := hH.pick [3, 0, 1, 2] (Hs' := [_, _, _, _]) rfl
  refine s0 hA (lo_storeAm hH ti23 rfl rfl (by first | rfl | (simp; done) | (rw [List.length_map]; exact hPl)) (by first | rfl | (simp; done) | (rw [List.length_map]; exact hPl)) (one_B8 _)) ?_
  clear hH; rintro _ w hH
  refine wpList_nil ?_
  refine hK3 _ _ ?_
  clear hK3
  replace hA := hA.sub (E' := [(2, _)]) ⟨rfl, trivial⟩
  refine wp_ret ?_
  refine post_ret hA (res_c rfl hA rfl (resW hH 0 rfl Tryd.underlying23 rfl ti23 (by first | rfl | (simp; done) | (rw [List.length_map]; exact hPl)))) ?_
  replace hH := hH.pick [2, 0, 1, 3] (Hs' := [_, _, _, _]) rfl
  replace hH := hH.pick [0] (Hs' := [_]) rfl
  exact ⟨_, rfl, rfl, hH⟩

theorem refskip7_any {w0 : World} {lv : Nat} (hg : Gl (lv + 2) w0) (b_m : Nat) (hgM : NG (lv + 2) [b_m]) (s : Bs) (hsd : s.length = 32) (n h : Nat) (hn : R7 n h) (x : Nat) (hx : x ≤ 2 ^ h) (to : Int) (hH : HS [b_m] w0 w0 [[(b_m, Obj.cells (rkeyC s n h x).toArray 39 (0, 0))]]) :
    Calls Tryd.prog 25 #[(.pointer (some ⟨b_m, 0, none⟩)), I to] w0 (Ret fun r w' => r = I (skT (2 ^ h) x to).1 ∧ HS [b_m] w0 w' [[(b_m, Obj.cells (rkeyC s n h (skT (2 ^ h) x to).2).toArray 39 (0, 0))]]) := by
  refine start (n := 24) (E := [(0, _), (1, _)]) Tryd.func25 rfl rfl rfl (args_look rfl) ?_
  intro a hA
  have hn5 := hn.1
  have hn1 := hn.1.1
  have hn2 := hn.1.2
  have hh6 : h ≤ 6 := by have := hn.2.2; omega
  have h64 := pow_le64 hh6
  have hp0 : 0 < 2 ^ h := Nat.pow_pos (by decide)
  have hPl := pubK_length s n h
  refine wp_seq_k fun K1 hK1 => ?_
  refine wp_region_lit ?_
  refine sq hA (q_assign rfl) rfl fun a hA => ?_
  refine wpList_nil ?_
  refine hK1 _ _ ?_
  clear hK1
  refine wp_seq_k fun K2 hK2 => ?_
  refine wp_seq_k fun K3 hK3 => ?_
  refine wp_region_lit ?_
  refine sq hA (q_move rfl) rfl fun a hA => ?_
  refine sq hA (q_move rfl) rfl fun a hA => ?_
  refine sq hA (q_nilCheck rfl) rfl fun a hA => ?_
  refine sq hA (q_fld 34 Tryd.underlying39 rfl rfl ti3 rfl) rfl fun a hA => ?_
  refine sq hA (q_loadB hH 0 rfl (List.mem_singleton.2 rfl) Tryd.underlying3 rfl rfl (rkeyC_34 hsd)) rfl fun a hA => ?_
  refine sq hA (q_lssI rfl rfl) rfl fun a hA => ?_
  refine hA.spl (fun hs10 hA => ?_) (fun hs10 hA => ?_)
  · skip
    refine sq hA (q_move rfl) rfl fun a hA => ?_
    refine gs hA rfl rfl rfl rfl fun a hA => ?_
    refine gs hA rfl rfl rfl rfl fun a hA => ?_
    refine gs hA rfl rfl rfl rfl fun a hA => ?_
    refine gs hA rfl rfl rfl rfl fun a hA => ?_
    refine gs hA rfl rfl rfl rfl fun a hA => ?_
    refine gs hA rfl rfl rfl rfl fun a hA => ?_
    refine gs hA rfl rfl rfl rfl fun a hA => ?_
    refine sq hA (q_pick_t rfl rfl) rfl fun a hA => ?_
    refine wpList_nil ?_
    refine hK3 _ _ ?_
    clear hK3
    replace hA := hA.sub (E' := [(19, _), (4, _), (0, _), (1, _)]) ⟨rfl, rfl, rfl, rfl, trivial⟩
    refine cond_t hA rfl ?_
    refine wp_seq_k fun K4 hK4 => ?_
    refine wp_region_lit ?_
    refine sq hA (q_assign rfl) rfl fun a hA => ?_
    refine wpList_nil ?_
    refine hK4 _ _ ?_
    clear hK4
    replace hA := hA.sub (E' := [(4, _), (0, _), (1, _)]) ⟨rfl, rfl, rfl, trivial⟩
    refine wp_ret ?_
    refine then_ret ?_
    refine post_ret hA (res_1 rfl hA rfl) ?_
    first | exact ⟨_, rfl, by rw [skT_no (by omega)]; rfl, by rw [skT_no (by omega)]; exact hH⟩ | exact ⟨_, rfl, by rw [skT_ok (by omega) (by omega)]; rfl, by rw [skT_ok (by omega) (by omega)]; rw [show to = ((to.toNat : Nat) : Int) by omega] at hH; exact hH⟩
  · skip
    refine sq hA (q_move rfl) rfl fun a hA => ?_
    refine gq hA rfl rfl (q_move rfl) rfl fun a hA => ?_
    refine gq hA rfl rfl (q_move rfl) rfl fun a hA => ?_
    refine gq hA rfl rfl (q_nilCheck rfl) rfl fun a hA => ?_
    refine gq hA rfl rfl (q_fld 33 Tryd.underlying39 rfl rfl ti3 rfl) rfl fun a hA => ?_
    refine gq hA rfl rfl (q_loadB hH 0 rfl (List.mem_singleton.2 rfl) Tryd.underlying3 rfl rfl (rkeyC_33 hsd)) rfl fun a hA => ?_
    refine gq hA rfl rfl (q_shlI (m := 1) (n := h) ((2 ^ h : Nat) : Int) rfl rfl (by omega) (by push_cast; rfl) (by omega)) rfl fun a hA => ?_
    rw [Int.one_mul] at hA
    refine gq hA rfl rfl (q_gtrI rfl rfl) rfl fun a hA => ?_
    refine sq hA (q_pick_f rfl rfl) rfl fun a hA => ?_
    refine wpList_nil ?_
    refine hK3 _ _ ?_
    clear hK3
    replace hA := hA.sub (E' := [(19, _), (4, _), (0, _), (1, _)]) ⟨rfl, rfl, rfl, rfl, trivial⟩
    refine cond_d hA rfl (fun hc19 => ?_) (fun hc19 => ?_)
    · skip
      refine wp_seq_k fun K5 hK5 => ?_
      refine wp_region_lit ?_
      refine sq hA (q_assign rfl) rfl fun a hA => ?_
      refine wpList_nil ?_
      refine hK5 _ _ ?_
      clear hK5
      replace hA := hA.sub (E' := [(4, _), (0, _), (1, _)]) ⟨rfl, rfl, rfl, trivial⟩
      refine wp_ret ?_
      refine then_ret ?_
      refine post_ret hA (res_1 rfl hA rfl) ?_
      first | exact ⟨_, rfl, by rw [skT_no (by omega)]; rfl, by rw [skT_no (by omega)]; exact hH⟩ | exact ⟨_, rfl, by rw [skT_ok (by omega) (by omega)]; rfl, by rw [skT_ok (by omega) (by omega)]; rw [show to = ((to.toNat : Nat) : Int) by omega] at hH; exact hH⟩
    · skip
      refine wp_skip ?_
      refine hK2 _ _ ?_
      clear hK2
      replace hA := hA.sub (E' := [(4, _), (0, _), (1, _)]) ⟨rfl, rfl, rfl, trivial⟩
      refine wp_seq_k fun K6 hK6 => ?_
      refine wp_region_lit ?_
      refine sq hA (q_move rfl) rfl fun a hA => ?_
      refine sq hA (q_move rfl) rfl fun a hA => ?_
      refine sq hA (q_nilCheck rfl) rfl fun a hA => ?_
      refine sq hA (q_fld 34 Tryd.underlying39 rfl rfl ti3 rfl) rfl fun a hA => ?_
      refine s0 hA (lo_store1 hH ti3 rfl rfl (by rw [rkeyC_length hsd]; decide) rfl) ?_
      clear hH; rintro _ w hH
      rw [rkeyC_set hsd] at hH
      refine wpList_nil ?_
      refine hK6 _ _ ?_
      clear hK6
      replace hA := hA.sub (E' := [(4, _)]) ⟨rfl, trivial⟩
      refine wp_seq_k fun K7 hK7 => ?_
      refine wp_region_lit ?_
      refine sq hA (q_assign rfl) rfl fun a hA => ?_
      refine wpList_nil ?_
      refine hK7 _ _ ?_
      clear hK7
      refine wp_ret ?_
      refine post_ret hA (res_1 rfl hA rfl) ?_
      first | exact ⟨_, rfl, by rw [skT_no (by omega)]; rfl, by rw [skT_no (by omega)]; exact hH⟩ | exact ⟨_, rfl, by rw [skT_ok (by omega) (by omega)]; rfl, by rw [skT_ok (by omega) (by omega)]; rw [show to = ((to.toNat : Nat) : Int) by omega] at hH; exact hH⟩

theorem refsign7_end {w0 : World} {lv : Nat} (hg : Gl (lv + 2) w0) (b_m : Nat) (hgM : NG (lv + 2) [b_m]) (s : Bs) (hsd : s.length = 32) (n h : Nat) (hn : R7 n h) (x : Nat) (hx : x = 2 ^ h) (u : Value) (hH : HS [b_m] w0 w0 [[(b_m, Obj.cells (rkeyC s n h x).toArray 39 (0, 0))]]) :
    Calls Tryd.prog 26 #[(.pointer (some ⟨b_m, 0, none⟩)), u] w0 (Ret fun r w' => r = .tuple #[.agg #[I 0, .slice none 0 0, .slice none 0 0], I 70] ∧ HS [b_m] w0 w' [[(b_m, Obj.cells (rkeyC s n h x).toArray 39 (0, 0))]]) := by
  refine start (n := 67) (E := [(0, _), (1, _)]) Tryd.func26 rfl rfl rfl (args_look rfl) ?_
  intro a hA
  have hn5 := hn.1
  have hn1 := hn.1.1
  have hn2 := hn.1.2
  have hh6 : h ≤ 6 := by have := hn.2.2; omega
  have h64 := pow_le64 hh6
  have hp0 : 0 < 2 ^ h := Nat.pow_pos (by decide)
  have hPl := pubK_length s n h
  refine wp_seq_k fun K1 hK1 => ?_
  refine wp_region_lit ?_
  refine sl hA (lo_allocA hH ti27) rfl ?_
  clear hH; rintro _ w ⟨b_t4, rfl, hH⟩ a hA
  refine sq hA (q_assign rfl) rfl fun a hA => ?_
  refine wpList_nil ?_
  refine hK1 _ _ ?_
  clear hK1
  refine wp_seq_k fun K2 hK2 => ?_
  refine wp_seq_k fun K3 hK3 => ?_
  refine any_go mixed (fun _ => true) hH ?_
  clear hH; intro w hH
  have hS := hH
  change wpK _ _ _ _ _ _ 10 #[false, false, false, false, false, false, false, false, false, false] _ _
  refine apq hA 0 rfl (by kernel_rfl) (by intro c a d v w h; cases d <;> exact h) (fun w => (q_move rfl)) rfl (listed' := #[true, false, false, false, false, false, false, false, false, false]) rfl fun a hA => ?_
  refine apq hA 1 rfl (by kernel_rfl) (by intro c a d v w h; cases d <;> exact h) (fun w => (q_nilCheck rfl)) rfl (listed' := #[true, true, false, false, false, false, false, false, false, false]) rfl fun a hA => ?_
  refine apq hA 2 rfl (by kernel_rfl) (by intro c a d v w h; cases d <;> exact h) (fun w => (q_fld 34 Tryd.underlying39 rfl rfl ti3 rfl)) rfl (listed' := #[true, true, true, false, false, false, false, false, false, false]) rfl fun a hA => ?_
  refine aq hA 3 rfl (by kernel_rfl) (by intro c a d v w h; cases d <;> exact h) hS (fun w hH => (q_loadB hH 1 rfl (List.mem_singleton.2 rfl) Tryd.underlying3 rfl rfl (rkeyC_34 hsd))) rfl (listed' := #[true, true, true, true, false, false, false, false, false, false]) rfl fun a hA => ?_
  refine apq hA 4 rfl (by kernel_rfl) (by intro c a d v w h; cases d <;> exact h) (fun w => (q_move rfl)) rfl (listed' := #[true, true, true, true, true, false, false, false, false, false]) rfl fun a hA => ?_
  refine apq hA 5 rfl (by kernel_rfl) (by intro c a d v w h; cases d <;> exact h) (fun w => (q_nilCheck rfl)) rfl (listed' := #[true, true, true, true, true, true, false, false, false, false]) rfl fun a hA => ?_
  refine apq hA 6 rfl (by kernel_rfl) (by intro c a d v w h; cases d <;> exact h) (fun w => (q_fld 33 Tryd.underlying39 rfl rfl ti3 rfl)) rfl (listed' := #[true, true, true, true, true, true, true, false, false, false]) rfl fun a hA => ?_
  refine aq hA 7 rfl (by kernel_rfl) (by intro c a d v w h; cases d <;> exact h) hS (fun w hH => (q_loadB hH 1 rfl (List.mem_singleton.2 rfl) Tryd.underlying3 rfl rfl (rkeyC_33 hsd))) rfl (listed' := #[true, true, true, true, true, true, true, true, false, false]) rfl fun a hA => ?_
  refine apq hA 8 rfl (by kernel_rfl) (by intro c a d v w h; cases d <;> exact h) (fun w => (q_shlI (m := 1) (n := h) ((2 ^ h : Nat) : Int) rfl rfl (by omega) (by push_cast; rfl) (by omega))) rfl (listed' := #[true, true, true, true, true, true, true, true, true, false]) rfl fun a hA => ?_
  rw [Int.one_mul] at hA
  refine apq hA 9 rfl (by kernel_rfl) (by intro c a d v w h; cases d <;> exact h) (fun w => (Runs.bt (q_eqlI rfl rfl) (by omega))) rfl (listed' := #[true, true, true, true, true, true, true, true, true, true]) rfl fun a hA => ?_
  refine a_end (by kernel_rfl) ?_ _
  refine hK3 _ _ ?_
  clear hK3
  replace hA := hA.sub (E' := [(20, _), (5, _), (4, _), (0, _), (1, _)]) ⟨rfl, rfl, rfl, rfl, rfl, trivial⟩
  refine cond_t hA rfl ?_
  refine wp_seq_k fun K4 hK4 => ?_
  refine wp_region_lit ?_
  refine sq hA (q_build (v := (.agg ([(I 0), (.slice none 0 0), (.slice none 0 0)]).toArray)) (vs := []) rfl (fun w => by kernel_rfl)) rfl fun a hA => ?_
  refine s0 hA (lo_storeAm hH ti27 rfl rfl (rfl) (rfl) (ones_cons rfl (ones_cons rfl (ones_cons rfl ones_nil)))) ?_
  clear hH; rintro _ w hH
  refine sq hA (q_assign rfl) rfl fun a hA => ?_
  refine wpList_nil ?_
  refine hK4 _ _ ?_
  clear hK4
  replace hA := hA.sub (E' := [(5, _), (4, _), (0, _), (1, _)]) ⟨rfl, rfl, rfl, rfl, trivial⟩
  refine wp_ret ?_
  refine then_ret ?_
  refine post_ret hA (res_c1 rfl hA rfl rfl (resW hH 0 rfl Tryd.underlying27 rfl ti27 (by first | assumption | (rw [List.length_map]; assumption) | rfl | exact sha_length _ | (simp; done) | (simp [*]; done) | omega))) ?_
  replace hH := hH.pick [1, 0] (Hs' := [_, _]) rfl
  replace hH := hH.pick [0] (Hs' := [_]) rfl
  exact ⟨_, rfl, rfl, hH⟩

theorem refsign7_any {w0 : World} {lv : Nat} (hg : Gl (lv + 2) w0) (b_m : Nat) (hgM : NG (lv + 2) [b_m]) (s : Bs) (hsd : s.length = 32) (n h : Nat) (hn : R7 n h) (x : Nat) (hx : x < 2 ^ h) (u : Value) (l : Bs) (hu : By [b_m] w0 u l) (hl : l.length ≤ 1048576) (hH : HS [b_m] w0 w0 [[(b_m, Obj.cells (rkeyC s n h x).toArray 39 (0, 0))]]) :
    Calls Tryd.prog 26 #[(.pointer (some ⟨b_m, 0, none⟩)), u] w0 (Ret fun r w' => ∃ o p N1 N2, r = .tuple #[.agg #[I x, o, p], I 0] ∧ OwD 23 o (otsK s n x l) N1 ∧ OwD 23 p (pthK s n h x) N2 ∧ HS [b_m] w0 w' [[(b_m, Obj.cells (rkeyC s n h (x + 1 : Nat)).toArray 39 (0, 0))], N1, N2]) := by
  refine start (n := 67) (E := [(0, _), (1, _)]) Tryd.func26 rfl rfl rfl (args_look rfl) ?_
  intro a hA
  have hn5 := hn.1
  have hn1 := hn.1.1
  have hn2 := hn.1.2
  have hh6 : h ≤ 6 := by have := hn.2.2; omega
  have h64 := pow_le64 hh6
  have hp0 : 0 < 2 ^ h := Nat.pow_pos (by decide)
  have hPl := pubK_length s n h
  refine wp_seq_k fun K1 hK1 => ?_
  refine wp_region_lit ?_
  refine sl hA (lo_allocA hH ti27) rfl ?_
  clear hH; rintro _ w ⟨b_t4, rfl, hH⟩ a hA
  refine sq hA (q_assign rfl) rfl fun a hA => ?_
  refine wpList_nil ?_
  refine hK1 _ _ ?_
  clear hK1
  refine wp_seq_k fun K2 hK2 => ?_
  refine wp_seq_k fun K3 hK3 => ?_
  refine any_go mixed (fun _ => true) hH ?_
  clear hH; intro w hH
  have hS := hH
  change wpK _ _ _ _ _ _ 10 #[false, false, false, false, false, false, false, false, false, false] _ _
  refine apq hA 0 rfl (by kernel_rfl) (by intro c a d v w h; cases d <;> exact h) (fun w => (q_move rfl)) rfl (listed' := #[true, false, false, false, false, false, false, false, false, false]) rfl fun a hA => ?_
  refine apq hA 1 rfl (by kernel_rfl) (by intro c a d v w h; cases d <;> exact h) (fun w => (q_nilCheck rfl)) rfl (listed' := #[true, true, false, false, false, false, false, false, false, false]) rfl fun a hA => ?_
  refine apq hA 2 rfl (by kernel_rfl) (by intro c a d v w h; cases d <;> exact h) (fun w => (q_fld 34 Tryd.underlying39 rfl rfl ti3 rfl)) rfl (listed' := #[true, true, true, false, false, false, false, false, false, false]) rfl fun a hA => ?_
  refine aq hA 3 rfl (by kernel_rfl) (by intro c a d v w h; cases d <;> exact h) hS (fun w hH => (q_loadB hH 1 rfl (List.mem_singleton.2 rfl) Tryd.underlying3 rfl rfl (rkeyC_34 hsd))) rfl (listed' := #[true, true, true, true, false, false, false, false, false, false]) rfl fun a hA => ?_
  refine apq hA 4 rfl (by kernel_rfl) (by intro c a d v w h; cases d <;> exact h) (fun w => (q_move rfl)) rfl (listed' := #[true, true, true, true, true, false, false, false, false, false]) rfl fun a hA => ?_
  refine apq hA 5 rfl (by kernel_rfl) (by intro c a d v w h; cases d <;> exact h) (fun w => (q_nilCheck rfl)) rfl (listed' := #[true, true, true, true, true, true, false, false, false, false]) rfl fun a hA => ?_
  refine apq hA 6 rfl (by kernel_rfl) (by intro c a d v w h; cases d <;> exact h) (fun w => (q_fld 33 Tryd.underlying39 rfl rfl ti3 rfl)) rfl (listed' := #[true, true, true, true, true, true, true, false, false, false]) rfl fun a hA => ?_
  refine aq hA 7 rfl (by kernel_rfl) (by intro c a d v w h; cases d <;> exact h) hS (fun w hH => (q_loadB hH 1 rfl (List.mem_singleton.2 rfl) Tryd.underlying3 rfl rfl (rkeyC_33 hsd))) rfl (listed' := #[true, true, true, true, true, true, true, true, false, false]) rfl fun a hA => ?_
  refine apq hA 8 rfl (by kernel_rfl) (by intro c a d v w h; cases d <;> exact h) (fun w => (q_shlI (m := 1) (n := h) ((2 ^ h : Nat) : Int) rfl rfl (by omega) (by push_cast; rfl) (by omega))) rfl (listed' := #[true, true, true, true, true, true, true, true, true, false]) rfl fun a hA => ?_
  rw [Int.one_mul] at hA
  refine apq hA 9 rfl (by kernel_rfl) (by intro c a d v w h; cases d <;> exact h) (fun w => (Runs.bf (q_eqlI rfl rfl) (by omega))) rfl (listed' := #[true, true, true, true, true, true, true, true, true, true]) rfl fun a hA => ?_
  refine a_end (by kernel_rfl) ?_ _
  refine hK3 _ _ ?_
  clear hK3
  replace hA := hA.sub (E' := [(20, _), (5, _), (4, _), (0, _), (1, _)]) ⟨rfl, rfl, rfl, rfl, rfl, trivial⟩
  refine cond_f hA rfl ?_
  refine wp_skip ?_
  refine hK2 _ _ ?_
  clear hK2
  replace hA := hA.sub (E' := [(5, _), (4, _), (0, _), (1, _)]) ⟨rfl, rfl, rfl, rfl, trivial⟩
  refine wp_seq_k fun K4 hK4 => ?_
  refine wp_region_lit ?_
  refine sq hA (q_move rfl) rfl fun a hA => ?_
  refine sq hA (q_nilCheck rfl) rfl fun a hA => ?_
  refine sq hA (q_fld 34 Tryd.underlying39 rfl rfl ti3 rfl) rfl fun a hA => ?_
  refine sq hA (q_loadB hH 1 rfl (List.mem_singleton.2 rfl) Tryd.underlying3 rfl rfl (rkeyC_34 hsd)) rfl fun a hA => ?_
  refine sq hA (q_buildC (css := [_]) (z := [(I 0), (.slice none 0 0), (.slice none 0 0)]) (BT.mk (pl := [(0, 1), (1, 1), (2, 1)]) (it := Tryd.t27) (by kernel_rfl) Tryd.underlying27 (by kernel_rfl) (by kernel_rfl)) rfl ⟨rfl, ⟨_, rfl, by first | rfl | (simp [Value.cells]; done) | (simp [Value.cells, *]; done), by decide⟩, trivial⟩) rfl fun a hA => ?_
  refine sl hA (lo_allocA hH ti27) rfl ?_
  clear hH; rintro _ w ⟨b_t6, rfl, hH⟩ a hA
  refine s0 hA (lo_storeAm hH ti27 rfl rfl (rfl) (rfl) (ones_cons rfl (ones_cons rfl (ones_cons rfl ones_nil)))) ?_
  clear hH; rintro _ w hH
  refine wpList_nil ?_
  refine hK4 _ _ ?_
  clear hK4
  replace hA := hA.sub (E' := [(6, _), (5, _), (4, _), (0, _), (1, _)]) ⟨rfl, rfl, rfl, rfl, rfl, trivial⟩
  refine wp_seq_k fun K5 hK5 => ?_
  refine any_go mixed (fun _ => true) hH ?_
  clear hH; intro w hH
  have hS := hH
  change wpK _ _ _ _ _ _ 20 #[false, false, false, false, false, false, false, false, false, false, false, false, false, false, false, false, false, false, false, false] _ _
  refine apq hA 0 rfl (by kernel_rfl) (by intro c a d v w h; cases d <;> exact h) (fun w => (q_move rfl)) rfl (listed' := #[true, false, false, false, false, false, false, false, false, false, false, false, false, false, false, false, false, false, false, false]) rfl fun a hA => ?_
  refine apq hA 1 rfl (by kernel_rfl) (by intro c a d v w h; cases d <;> exact h) (fun w => (q_nilCheck rfl)) rfl (listed' := #[true, true, false, false, false, false, false, false, false, false, false, false, false, false, false, false, false, false, false, false]) rfl fun a hA => ?_
  refine apq hA 2 rfl (by kernel_rfl) (by intro c a d v w h; cases d <;> exact h) (fun w => (q_fld 0 Tryd.underlying39 rfl rfl ti23 rfl)) rfl (listed' := #[true, true, true, false, false, false, false, false, false, false, false, false, false, false, false, false, false, false, false, false]) rfl fun a hA => ?_
  refine aq hA 3 rfl (by kernel_rfl) (by intro c a d v w h; cases d <;> exact h) hS (fun w hH => (q_loadBA hH 2 rfl (List.mem_singleton.2 rfl) Tryd.underlying23 rfl ti23 rfl _ (rkeyC_seed hsd) (by simp [hsd]))) rfl (listed' := #[true, true, true, true, false, false, false, false, false, false, false, false, false, false, false, false, false, false, false, false]) rfl fun a hA => ?_
  refine apq hA 4 rfl (by kernel_rfl) (by intro c a d v w h; cases d <;> exact h) (fun w => (q_move rfl)) rfl (listed' := #[true, true, true, true, true, false, false, false, false, false, false, false, false, false, false, false, false, false, false, false]) rfl fun a hA => ?_
  refine apq hA 5 rfl (by kernel_rfl) (by intro c a d v w h; cases d <;> exact h) (fun w => (q_nilCheck rfl)) rfl (listed' := #[true, true, true, true, true, true, false, false, false, false, false, false, false, false, false, false, false, false, false, false]) rfl fun a hA => ?_
  refine apq hA 6 rfl (by kernel_rfl) (by intro c a d v w h; cases d <;> exact h) (fun w => (q_fld 34 Tryd.underlying39 rfl rfl ti3 rfl)) rfl (listed' := #[true, true, true, true, true, true, true, false, false, false, false, false, false, false, false, false, false, false, false, false]) rfl fun a hA => ?_
  refine aq hA 7 rfl (by kernel_rfl) (by intro c a d v w h; cases d <;> exact h) hS (fun w hH => (q_loadB hH 2 rfl (List.mem_singleton.2 rfl) Tryd.underlying3 rfl rfl (rkeyC_34 hsd))) rfl (listed' := #[true, true, true, true, true, true, true, true, false, false, false, false, false, false, false, false, false, false, false, false]) rfl fun a hA => ?_
  refine apq hA 9 rfl (by kernel_rfl) (by intro c a d v w h; cases d <;> exact h) (fun w => (q_move rfl)) rfl (listed' := #[true, true, true, true, true, true, true, true, false, true, false, false, false, false, false, false, false, false, false, false]) rfl fun a hA => ?_
  refine apq hA 10 rfl (by kernel_rfl) (by intro c a d v w h; cases d <;> exact h) (fun w => (q_nilCheck rfl)) rfl (listed' := #[true, true, true, true, true, true, true, true, false, true, true, false, false, false, false, false, false, false, false, false]) rfl fun a hA => ?_
  refine apq hA 11 rfl (by kernel_rfl) (by intro c a d v w h; cases d <;> exact h) (fun w => (q_fld 32 Tryd.underlying39 rfl rfl ti3 rfl)) rfl (listed' := #[true, true, true, true, true, true, true, true, false, true, true, true, false, false, false, false, false, false, false, false]) rfl fun a hA => ?_
  refine aq hA 12 rfl (by kernel_rfl) (by intro c a d v w h; cases d <;> exact h) hS (fun w hH => (q_loadB hH 2 rfl (List.mem_singleton.2 rfl) Tryd.underlying3 rfl rfl (rkeyC_32 hsd))) rfl (listed' := #[true, true, true, true, true, true, true, true, false, true, true, true, true, false, false, false, false, false, false, false]) rfl fun a hA => ?_
  refine apq hA 13 rfl (by kernel_rfl) (by intro c a d v w h; cases d <;> exact h) (fun w => (q_move rfl)) rfl (listed' := #[true, true, true, true, true, true, true, true, false, true, true, true, true, true, false, false, false, false, false, false]) rfl fun a hA => ?_
  refine al hA 8 rfl (by kernel_rfl) (lo_call fn49 rfl (refseed_any (hg.mono hH hgM) _ _ _ (by first | assumption | (rw [List.length_map]; assumption) | rfl | exact sha_length _ | (simp; done) | (simp [*]; done) | omega) (by decide))) rfl (listed' := #[true, true, true, true, true, true, true, true, true, true, true, true, true, true, false, false, false, false, false, false]) rfl ?_
  rintro _ w ⟨rfl, hC⟩
  replace hH := HS.call0 hH hC
  clear hC
  have hS' := hH.pick [0, 1, 2] (Hs' := [_, _, _]) rfl
  replace hS := hS'; clear hS'
  refine ⟨fun _ _ => hS, ?_⟩
  intro a hA
  refine al hA 14 rfl (by kernel_rfl) (lo_call fn48 rfl (refsign_any (hg.mono hH hgM) _ (by first | assumption | (rw [List.length_map]; assumption) | rfl | exact sha_length _ | (simp; done) | (simp [*]; done) | omega) _ hn5 _ _ (hH.rd hu) (by first | omega | (simp; done) | (simp; omega)))) rfl (listed' := #[true, true, true, true, true, true, true, true, true, true, true, true, true, true, true, false, false, false, false, false]) rfl ?_
  rintro _ w ⟨v_t42, N_t42, rfl, hO_t42, hC⟩
  replace hH := HS.call0 hH hC
  clear hC
  have hS' := hH.pick [1, 2, 3] (Hs' := [_, _, _]) rfl
  replace hS := hS'; clear hS'
  refine ⟨fun _ _ => hS, ?_⟩
  intro a hA
  refine apq hA 15 rfl (by kernel_rfl) (by intro c a d v w h; cases d <;> exact h) (fun w => (q_move rfl)) rfl (listed' := #[true, true, true, true, true, true, true, true, true, true, true, true, true, true, true, true, false, false, false, false]) rfl fun a hA => ?_
  refine apq hA 16 rfl (by kernel_rfl) (by intro c a d v w h; cases d <;> exact h) (fun w => (q_extract rfl rfl)) rfl (listed' := #[true, true, true, true, true, true, true, true, true, true, true, true, true, true, true, true, true, false, false, false]) rfl fun a hA => ?_
  refine apq hA 17 rfl (by kernel_rfl) (by intro c a d v w h; cases d <;> exact h) (fun w => (q_extract rfl rfl)) rfl (listed' := #[true, true, true, true, true, true, true, true, true, true, true, true, true, true, true, true, true, true, false, false]) rfl fun a hA => ?_
  refine apq hA 18 rfl (by kernel_rfl) (by intro c a d v w h; cases d <;> exact h) (fun w => (q_assign rfl)) rfl (listed' := #[true, true, true, true, true, true, true, true, true, true, true, true, true, true, true, true, true, true, true, false]) rfl fun a hA => ?_
  refine apq hA 19 rfl (by kernel_rfl) (by intro c a d v w h; cases d <;> exact h) (fun w => (q_assign rfl)) rfl (listed' := #[true, true, true, true, true, true, true, true, true, true, true, true, true, true, true, true, true, true, true, true]) rfl fun a hA => ?_
  refine a_end (by kernel_rfl) ?_ _
  refine hK5 _ _ ?_
  clear hK5
  replace hA := hA.sub (E' := [(7, _), (6, _), (5, _), (4, _), (0, _)]) ⟨rfl, rfl, rfl, rfl, rfl, trivial⟩
  refine wp_seq_k fun K6 hK6 => ?_
  refine wp_region_lit ?_
  refine sq hA (q_move rfl) rfl fun a hA => ?_
  refine sq hA (q_fld 1 Tryd.underlying27 rfl rfl ti25 rfl) rfl fun a hA => ?_
  replace hH := hH.pick [1, 0, 2, 3] (Hs' := [_, _, _, _]) rfl
  refine s0 hA (lo_store1 hH ti25 rfl rfl ((show 1 < 3 by decide)) (Own.one hO_t42)) ?_
  clear hH; rintro _ w hH
  refine wpList_nil ?_
  refine hK6 _ _ ?_
  clear hK6
  replace hA := hA.sub (E' := [(6, _), (5, _), (4, _), (0, _)]) ⟨rfl, rfl, rfl, rfl, trivial⟩
  refine wp_seq_k fun K7 hK7 => ?_
  refine any_go mixed (fun j => !(Nat.beq j 6)) hH ?_
  clear hH; intro w hH
  have hS := hH
  change wpK _ _ _ _ _ _ 12 #[false, false, false, false, false, false, false, false, false, false, false, false] _ _
  refine apq hA 0 rfl (by kernel_rfl) (by intro c a d v w h; cases d <;> exact h) (fun w => (q_move rfl)) rfl (listed' := #[true, false, false, false, false, false, false, false, false, false, false, false]) rfl fun a hA => ?_
  refine apq hA 2 rfl (by kernel_rfl) (by intro c a d v w h; cases d <;> exact h) (fun w => (q_move rfl)) rfl (listed' := #[true, false, true, false, false, false, false, false, false, false, false, false]) rfl fun a hA => ?_
  refine apq hA 3 rfl (by kernel_rfl) (by intro c a d v w h; cases d <;> exact h) (fun w => (q_nilCheck rfl)) rfl (listed' := #[true, false, true, true, false, false, false, false, false, false, false, false]) rfl fun a hA => ?_
  refine apq hA 4 rfl (by kernel_rfl) (by intro c a d v w h; cases d <;> exact h) (fun w => (q_fld 34 Tryd.underlying39 rfl rfl ti3 rfl)) rfl (listed' := #[true, false, true, true, true, false, false, false, false, false, false, false]) rfl fun a hA => ?_
  refine aq hA 5 rfl (by kernel_rfl) (by intro c a d v w h; cases d <;> exact h) hS (fun w hH => (q_loadB hH 3 rfl (List.mem_singleton.2 rfl) Tryd.underlying3 rfl rfl (rkeyC_34 hsd))) rfl (listed' := #[true, false, true, true, true, true, false, false, false, false, false, false]) rfl fun a hA => ?_
  replace hH := hH.pick [3, 0, 1, 2] (Hs' := [_, _, _, _]) rfl
  refine al hA 1 rfl (by kernel_rfl) (lo_call fn45 rfl (refleaves_any (hg.mono hH hgM) b_m (hg.ng hgM hH) s hsd n h hn _ (HS.handed (Ns1 := [_]) hH))) rfl (listed' := #[true, true, true, true, true, true, false, false, false, false, false, false]) rfl ?_
  rintro _ w ⟨v_t49, N_t49, rfl, hO_t49, hC⟩
  replace hH := HS.call (Ns1 := [_]) hH hC
  clear hC
  have hS' := hH.pick [2, 3, 4, 0] (Hs' := [_, _, _, _]) rfl
  replace hS := hS'; clear hS'
  refine ⟨fun _ _ => hS, ?_⟩
  intro a hA
  refine al hA 6 rfl (by kernel_rfl) (lo_call fn50 rfl (refpath_any (hg.mono hH hgM) _ _ (leavesK_dg s n _) (Own.rd0 hO_t49 hH 1 rfl) _ _ (show h ≤ 10 by omega) (leavesK_length s n _) (by omega))) rfl (listed' := #[true, true, true, true, true, true, true, false, false, false, false, false]) rfl ?_
  rintro _ w ⟨v_t54, N_t54, rfl, hO_t54, hC⟩
  replace hH := HS.call0 hH hC
  clear hC
  refine ⟨fun _ h => absurd h (by decide), ?_⟩
  intro a hA
  refine apq hA 7 rfl (by kernel_rfl) (by intro c a d v w h; cases d <;> exact h) (fun w => (q_move rfl)) rfl (listed' := #[true, true, true, true, true, true, true, true, false, false, false, false]) rfl fun a hA => ?_
  refine apq hA 8 rfl (by kernel_rfl) (by intro c a d v w h; cases d <;> exact h) (fun w => (q_extract rfl rfl)) rfl (listed' := #[true, true, true, true, true, true, true, true, true, false, false, false]) rfl fun a hA => ?_
  refine apq hA 9 rfl (by kernel_rfl) (by intro c a d v w h; cases d <;> exact h) (fun w => (q_extract rfl rfl)) rfl (listed' := #[true, true, true, true, true, true, true, true, true, true, false, false]) rfl fun a hA => ?_
  refine apq hA 10 rfl (by kernel_rfl) (by intro c a d v w h; cases d <;> exact h) (fun w => (q_assign rfl)) rfl (listed' := #[true, true, true, true, true, true, true, true, true, true, true, false]) rfl fun a hA => ?_
  refine apq hA 11 rfl (by kernel_rfl) (by intro c a d v w h; cases d <;> exact h) (fun w => (q_assign rfl)) rfl (listed' := #[true, true, true, true, true, true, true, true, true, true, true, true]) rfl fun a hA => ?_
  refine a_end (by kernel_rfl) ?_ _
  refine hK7 _ _ ?_
  clear hK7
  replace hA := hA.sub (E' := [(9, _), (6, _), (5, _), (4, _), (0, _)]) ⟨rfl, rfl, rfl, rfl, rfl, trivial⟩
  refine wp_seq_k fun K8 hK8 => ?_
  refine wp_region_lit ?_
  refine sq hA (q_move rfl) rfl fun a hA => ?_
  refine sq hA (q_fld 2 Tryd.underlying27 rfl rfl ti25 rfl) rfl fun a hA => ?_
  replace hH := hH.pick [3, 0, 1, 2, 4, 5] (Hs' := [_, _, _, _, _, _]) rfl
  refine s0 hA (lo_store1 hH ti25 rfl rfl ((show 2 < 3 by decide)) (Own.one hO_t54)) ?_
  clear hH; rintro _ w hH
  refine wpList_nil ?_
  refine hK8 _ _ ?_
  clear hK8
  replace hA := hA.sub (E' := [(6, _), (5, _), (4, _), (0, _)]) ⟨rfl, rfl, rfl, rfl, trivial⟩
  refine wp_seq_k fun K9 hK9 => ?_
  refine wp_region_lit ?_
  refine sq hA (q_move rfl) rfl fun a hA => ?_
  refine sq hA (q_nilCheck rfl) rfl fun a hA => ?_
  refine sq hA (q_fld 34 Tryd.underlying39 rfl rfl ti3 rfl) rfl fun a hA => ?_
  refine sq hA (q_loadB hH 2 rfl (List.mem_singleton.2 rfl) Tryd.underlying3 rfl rfl (rkeyC_34 hsd)) rfl fun a hA => ?_
  refine sq hA (q_addI (n := 1) rfl rfl (by omega)) rfl fun a hA => ?_
  rw [show ((x : Nat) : Int) + 1 = ((x + 1 : Nat) : Int) by omega] at hA
  refine sq hA (q_nilCheck rfl) rfl fun a hA => ?_
  refine sq hA (q_fld 34 Tryd.underlying39 rfl rfl ti3 rfl) rfl fun a hA => ?_
  replace hH := hH.pick [2, 0, 1, 3, 4, 5] (Hs' := [_, _, _, _, _, _]) rfl
  refine s0 hA (lo_store1 hH ti3 rfl rfl (by rw [rkeyC_length hsd]; decide) rfl) ?_
  clear hH; rintro _ w hH
  rw [rkeyC_set hsd] at hH
  refine wpList_nil ?_
  refine hK9 _ _ ?_
  clear hK9
  replace hA := hA.sub (E' := [(6, _), (5, _), (4, _)]) ⟨rfl, rfl, rfl, trivial⟩
  refine wp_seq_k fun K10 hK10 => ?_
  refine wp_region_lit ?_
  refine sq hA (q_loadW hH 1 rfl Tryd.underlying27 rfl ti27 rfl (by first | omega | (simp; done) | (simp; omega) | (rw [List.length_map]; assumption) | assumption | rfl | (simp [*]; done) | (simp [*]; omega))) rfl fun a hA => ?_
  replace hH := hH.pick [5, 0, 1, 2, 3, 4] (Hs' := [_, _, _, _, _, _]) rfl
  refine s0 hA (lo_storeAm hH ti27 rfl rfl (rfl) (rfl) (ones_cons rfl (ones_cons (Own.one hO_t42) (ones_cons (Own.one hO_t54) ones_nil)))) ?_
  clear hH; rintro _ w hH
  refine sq hA (q_assign rfl) rfl fun a hA => ?_
  refine wpList_nil ?_
  refine hK10 _ _ ?_
  clear hK10
  replace hA := hA.sub (E' := [(5, _), (4, _)]) ⟨rfl, rfl, trivial⟩
  refine wp_ret ?_
  refine post_ret hA (res_c1 rfl hA rfl rfl (resW hH 0 rfl Tryd.underlying27 rfl ti27 (by first | assumption | (rw [List.length_map]; assumption) | rfl | exact sha_length _ | (simp; done) | (simp [*]; done) | omega))) ?_
  replace hH := hH.pick [1, 5, 3, 0, 2, 4] (Hs' := [_, _, _, _, _, _]) rfl
  replace hH := hH.pick [0, 1, 2] (Hs' := [_, _, _]) rfl
  exact ⟨_, rfl, v_t42, v_t54, N_t42, N_t54, rfl, hO_t42, hO_t54, hH⟩

end Go.Proofs.YtipjpbfledddaaaDoor
