/- Layer 6 (tree): the law TreeHalves. -/
import Derived.Test.YtommjkbbgmkdoaaDoorCg
import Derived.Test.YtommjkbbgmkdoaaDoorMv
import Derived.Test.YtommjkbbgmkdoaaDoorCd
namespace Go.Proofs.YtommjkbbgmkdoaaDoor
open Go
set_option linter.unusedVariables false
set_option linter.unusedSimpArgs false
set_option maxRecDepth 100000

set_option maxHeartbeats 1000000 in
theorem treeHalves_any {w0 : World} {lv : Nat} (hg : Gl lv w0) (v : Value) (ls : List Bs) (hd : Dg ls) (hr : RdD [] w0 v ls) (hl : ls.length ≤ 1048576) :
    Calls Tryd.prog 4 #[v] w0 (Ret fun r w' => r = .bool true ∧ HS [] w0 w' []) := by
  have hH := HS.start w0
  refine start (n := 72) (E := [(0, _)]) Tryd.func4 rfl rfl rfl (args_look rfl) ?_
  intro a hA
  refine wp_seq_k fun K1 hK1 => ?_
  refine wp_region_lit ?_
  refine sq hA (q_assign rfl) rfl fun a hA => ?_
  refine wpList_nil ?_
  refine hK1 _ _ ?_
  clear hK1
  refine wp_seq_k fun K2 hK2 => ?_
  refine wp_region_lit ?_
  refine sq hA (q_move rfl) rfl fun a hA => ?_
  refine sl hA (lo_call fn21 rfl (cut_any v ls hd (hH.rd hr) hl)) rfl ?_
  rintro _ w ⟨v_t10, N_t10, ds, m, rfl, hO_t10, hds, hdl, hm, hC⟩ a hA
  replace hH := HS.call0 hH hC
  clear hC
  have hpu : 2 ^ m ≤ 64 := Nat.pow_le_pow_right (n := 2) (by decide) hm
  have hrt := (lvls_dg hds m).getD (i := 0) (by rw [lvls_length hdl (Nat.le_refl _)]; exact Nat.pow_pos (by decide))
  refine sq hA (q_assign rfl) rfl fun a hA => ?_
  refine wpList_nil ?_
  refine hK2 _ _ ?_
  clear hK2
  replace hA := hA.sub (E' := [(0, _), (2, _)]) ⟨rfl, rfl, trivial⟩
  refine wp_seq_k fun K3 hK3 => ?_
  refine wp_region_lit ?_
  refine sq hA (q_move rfl) rfl fun a hA => ?_
  refine sl hA (lo_call fn17 rfl (own6_any _ (ds) hds (Own.rd0 hO_t10 hH 0 rfl) (by omega))) rfl ?_
  rintro _ w ⟨v_t13, N_t13, rfl, hO_t13, hC⟩ a hA
  replace hH := HS.call0 hH hC
  clear hC
  refine sl hA (lo_call fn16 rfl (root_any (hg.mono0 hH) _ (ds) (hds) (Own.rd0 hO_t13 hH 0 rfl) (m) (by omega) (hdl))) rfl ?_
  rintro _ w ⟨rfl, hC⟩ a hA
  replace hH := HS.call0 hH hC
  clear hC
  refine sq hA (q_move rfl) rfl fun a hA => ?_
  refine sq hA (q_extract rfl rfl) rfl fun a hA => ?_
  refine sq hA (q_extract rfl rfl) rfl fun a hA => ?_
  refine sl hA (lo_allocA hH ti24) rfl ?_
  clear hH; rintro _ w ⟨b_t3, rfl, hH⟩ a hA
  refine s0 hA (lo_storeAm hH ti24 rfl rfl (by first | rfl | (simp; done) | (rw [List.length_map]; exact hrt) | exact hrt) (by first | rfl | (simp; done) | (rw [List.length_map]; exact hrt) | exact hrt) (one_B8 _)) ?_
  clear hH; rintro _ w hH
  refine sq hA (q_assign rfl) rfl fun a hA => ?_
  refine wpList_nil ?_
  refine hK3 _ _ ?_
  clear hK3
  replace hA := hA.sub (E' := [(4, _), (3, _), (0, _), (2, _)]) ⟨rfl, rfl, rfl, rfl, trivial⟩
  refine wp_seq_k fun K4 hK4 => ?_
  refine wp_seq_k fun K5 hK5 => ?_
  refine wp_region_lit ?_
  refine sq hA (q_move rfl) rfl fun a hA => ?_
  refine sq hA (q_len Tryd.underlying22 rfl (Own.shp hO_t10)) rfl fun a hA => ?_
  refine sq hA (q_eqlI (n := 1) rfl rfl) rfl fun a hA => ?_
  refine wpList_nil ?_
  refine hK5 _ _ ?_
  clear hK5
  replace hA := hA.sub (E' := [(19, _), (4, _), (3, _), (0, _), (2, _)]) ⟨rfl, rfl, rfl, rfl, rfl, trivial⟩
  refine cond_d hA rfl (fun hc19 => ?_) (fun hc19 => ?_)
  · skip
    have hm0 : m = 0 := pow_one (by rw [← hdl]; omega)
    refine wp_seq_k fun K6 hK6 => ?_
    refine any_go mixed (fun _ => true) hH ?_
    clear hH; intro w hH
    have hS := hH
    change wpK _ _ _ _ _ _ 13 #[false, false, false, false, false, false, false, false, false, false, false, false, false] _ _
    refine apq hA 0 rfl (by kernel_rfl) (by intro c a d v w h; cases d <;> exact h) (fun w => (q_move rfl)) rfl (listed' := #[true, false, false, false, false, false, false, false, false, false, false, false, false]) rfl fun a hA => ?_
    refine apq hA 1 rfl (by kernel_rfl) (by intro c a d v w h; cases d <;> exact h) (fun w => (Runs.bt (q_eqlI (n := 0) rfl rfl) (by rfl))) rfl (listed' := #[true, true, false, false, false, false, false, false, false, false, false, false, false]) rfl fun a hA => ?_
    refine apq hA 2 rfl (by kernel_rfl) (by intro c a d v w h; cases d <;> exact h) (fun w => (q_move rfl)) rfl (listed' := #[true, true, true, false, false, false, false, false, false, false, false, false, false]) rfl fun a hA => ?_
    refine agq hA 3 rfl (by kernel_rfl) rfl rfl (by intro c a d v w h; cases d <;> exact h) hS (fun w hH => (q_loadW hH 0 rfl Tryd.underlying24 rfl ti24 rfl (by first | rfl | (simp; done) | (rw [List.length_map]; exact hrt) | exact hrt))) rfl (listed' := #[true, true, true, true, false, false, false, false, false, false, false, false, false]) rfl fun a hA => ?_
    refine apgq hA 4 rfl (by kernel_rfl) rfl rfl (by intro c a d v w h; cases d <;> exact h) (fun w => (q_move rfl)) rfl (listed' := #[true, true, true, true, true, false, false, false, false, false, false, false, false]) rfl fun a hA => ?_
    refine apgq hA 5 rfl (by kernel_rfl) rfl rfl (by intro c a d v w h; cases d <;> exact h) (fun w => (q_idxk (0) Tryd.underlying22 ti24 rfl rfl (rfl) (Own.shp hO_t10) (by first | omega | (simp; done) | (simp; omega) | (simp [*]; done) | (simp [*]; omega)))) rfl (listed' := #[true, true, true, true, true, true, false, false, false, false, false, false, false]) rfl fun a hA => ?_
    refine agq hA 6 rfl (by kernel_rfl) rfl rfl (by intro c a d v w h; cases d <;> exact h) hS (fun w hH => (q_loadRA (i := 0) Tryd.underlying24 rfl ti24 rfl (Own.rd0 hO_t10 hH 2 rfl) (by omega) _ (dc_at hds (by omega)))) rfl (listed' := #[true, true, true, true, true, true, true, false, false, false, false, false, false]) rfl fun a hA => ?_
    refine apgq hA 7 rfl (by kernel_rfl) rfl rfl (by intro c a d v w h; cases d <;> exact h) (fun w => (Runs.bt (q_eqlA8 (p := (lvls ds m).getD 0 []) (q := ds.getD 0 []) eqa24 rfl rfl rfl rfl (by first | exact hrt | exact hds.getD (by omega)) (by first | exact hrt | exact hds.getD (by omega))) (by rw [hm0]; rfl))) rfl (listed' := #[true, true, true, true, true, true, true, true, false, false, false, false, false]) rfl fun a hA => ?_
    refine apq hA 8 rfl (by kernel_rfl) (by intro c a d v w h; cases d <;> exact h) (fun w => (q_pick_t rfl rfl)) rfl (listed' := #[true, true, true, true, true, true, true, true, true, false, false, false, false]) rfl fun a hA => ?_
    refine apq hA 9 rfl (by kernel_rfl) (by intro c a d v w h; cases d <;> exact h) (fun w => (q_move rfl)) rfl (listed' := #[true, true, true, true, true, true, true, true, true, true, false, false, false]) rfl fun a hA => ?_
    refine agl hA 10 rfl (by kernel_rfl) rfl rfl (lo_call fn15 rfl (awake6_any (hg.mono0 hH))) rfl (listed' := #[true, true, true, true, true, true, true, true, true, true, true, false, false]) rfl ?_
    rintro _ w ⟨rfl, hC⟩
    replace hH := HS.call0 hH hC
    clear hC
    have hS' := hH.pick [0, 1, 2] (Hs' := [_, _, _]) rfl
    replace hS := hS'; clear hS'
    refine ⟨fun _ _ => hS, ?_⟩
    intro a hA
    refine apq hA 11 rfl (by kernel_rfl) (by intro c a d v w h; cases d <;> exact h) (fun w => (q_pick_t rfl rfl)) rfl (listed' := #[true, true, true, true, true, true, true, true, true, true, true, true, false]) rfl fun a hA => ?_
    refine apq hA 12 rfl (by kernel_rfl) (by intro c a d v w h; cases d <;> exact h) (fun w => (q_assign rfl)) rfl (listed' := #[true, true, true, true, true, true, true, true, true, true, true, true, true]) rfl fun a hA => ?_
    refine a_end (by kernel_rfl) ?_ _
    refine hK6 _ _ ?_
    clear hK6
    replace hA := hA.sub (E' := [(2, _), (4, _), (3, _), (0, _)]) ⟨rfl, rfl, rfl, rfl, trivial⟩
    refine wp_ret ?_
    refine then_ret ?_
    refine post_ret hA (res_1 rfl hA rfl) ?_
    replace hH := hH.pick [] (Hs' := []) rfl
    exact ⟨_, rfl, rfl, hH⟩
  · skip
    obtain ⟨k, hmk⟩ : ∃ k, m = k + 1 := ⟨m - 1, by have : m ≠ 0 := fun h => hc19 (by rw [hdl, h]; rfl); omega⟩
    have hp2 : 2 ^ m = 2 * 2 ^ k := by rw [hmk, Nat.pow_succ]; omega
    have hkt : (ds.take (2 ^ k)).length = 2 ^ k := by rw [List.length_take]; omega
    have hkd : (ds.drop (2 ^ k)).length = 2 ^ k := by rw [List.length_drop]; omega
    have hra := (lvls_dg (hds.take (2 ^ k)) k).getD (i := 0) (by rw [lvls_length hkt (Nat.le_refl _)]; exact Nat.pow_pos (by decide))
    have hrb := (lvls_dg (hds.drop (2 ^ k)) k).getD (i := 0) (by rw [lvls_length hkd (Nat.le_refl _)]; exact Nat.pow_pos (by decide))
    have hrh : (lvls ds m).getD 0 [] = ab ((lvls (ds.take (2 ^ k)) k).getD 0 []) ((lvls (ds.drop (2 ^ k)) k).getD 0 []) := by have e := root_halves hkt hkd; rw [List.take_append_drop, ← hmk] at e; exact e
    refine wp_skip ?_
    refine hK4 _ _ ?_
    clear hK4
    replace hA := hA.sub (E' := [(4, _), (3, _), (0, _), (2, _)]) ⟨rfl, rfl, rfl, rfl, trivial⟩
    refine wp_seq_k fun K7 hK7 => ?_
    refine wp_region_lit ?_
    refine sq hA (q_move rfl) rfl fun a hA => ?_
    refine sq hA (q_move rfl) rfl fun a hA => ?_
    refine sq hA (q_len Tryd.underlying22 rfl (Own.shp hO_t10)) rfl fun a hA => ?_
    refine sq hA (q_quoI (n := 2) rfl rfl (by omega)) rfl fun a hA => ?_
    rw [show ((ds.length : Int) / 2) = ((2 ^ k : Nat) : Int) by omega] at hA
    obtain ⟨v_t37, hv_t37, hO_t37⟩ := Own.cut hO_t10 (0) (2 ^ k) (by first | omega | (simp; omega) | (simp [*]; omega)) (by first | omega | (simp; omega) | (simp [*]; omega))
    replace hO_t37 : OwD 24 v_t37 (ds.take (2 ^ k)) N_t10 := OwD.takeOf hds (by omega) hO_t37
    refine sq hA (q_slice Tryd.underlying22 ti24 rfl (0) (2 ^ k) hv_t37 (Own.shp hO_t10) rfl rfl (rfl) (rfl) (by first | omega | (simp; omega) | (simp [*]; omega)) (by first | omega | (simp; omega) | (simp [*]; omega))) rfl fun a hA => ?_
    refine sl hA (lo_call fn17 rfl (own6_any _ (ds.take (2 ^ k)) (hds.take _) (Own.rd0 hO_t37 hH 2 rfl) (by omega))) rfl ?_
    rintro _ w ⟨v_t38, N_t38, rfl, hO_t38, hC⟩ a hA
    replace hH := HS.call0 hH hC
    clear hC
    refine sl hA (lo_call fn16 rfl (root_any (hg.mono0 hH) _ (ds.take (2 ^ k)) (hds.take _) (Own.rd0 hO_t38 hH 0 rfl) (k) (by omega) (hkt))) rfl ?_
    rintro _ w ⟨rfl, hC⟩ a hA
    replace hH := HS.call0 hH hC
    clear hC
    refine sq hA (q_move rfl) rfl fun a hA => ?_
    refine sq hA (q_extract rfl rfl) rfl fun a hA => ?_
    refine sq hA (q_extract rfl rfl) rfl fun a hA => ?_
    refine sl hA (lo_allocA hH ti24) rfl ?_
    clear hH; rintro _ w ⟨b_t5, rfl, hH⟩ a hA
    refine s0 hA (lo_storeAm hH ti24 rfl rfl (by first | rfl | (simp; done) | (rw [List.length_map]; exact hra) | exact hra) (by first | rfl | (simp; done) | (rw [List.length_map]; exact hra) | exact hra) (one_B8 _)) ?_
    clear hH; rintro _ w hH
    refine sq hA (q_assign rfl) rfl fun a hA => ?_
    refine wpList_nil ?_
    refine hK7 _ _ ?_
    clear hK7
    replace hA := hA.sub (E' := [(6, _), (5, _), (4, _), (3, _), (0, _), (2, _)]) ⟨rfl, rfl, rfl, rfl, rfl, rfl, trivial⟩
    refine wp_seq_k fun K8 hK8 => ?_
    refine wp_region_lit ?_
    refine sq hA (q_move rfl) rfl fun a hA => ?_
    refine sq hA (q_move rfl) rfl fun a hA => ?_
    refine sq hA (q_len Tryd.underlying22 rfl (Own.shp hO_t10)) rfl fun a hA => ?_
    refine sq hA (q_quoI (n := 2) rfl rfl (by omega)) rfl fun a hA => ?_
    rw [show ((ds.length : Int) / 2) = ((2 ^ k : Nat) : Int) by omega] at hA
    obtain ⟨v_t47, hv_t47, hO_t47⟩ := Own.cut hO_t10 (2 ^ k) (ds.length) (by first | omega | (simp; omega) | (simp [*]; omega)) (by first | omega | (simp; omega) | (simp [*]; omega))
    replace hO_t47 : OwD 24 v_t47 (ds.drop (2 ^ k)) N_t10 := OwD.dropOf hds (by omega) hO_t47
    refine sq hA (q_slice Tryd.underlying22 ti24 rfl (2 ^ k) (ds.length) hv_t47 (Own.shp hO_t10) rfl rfl (rfl) (by first | rfl | (simp; done) | omega) (by first | omega | (simp; omega) | (simp [*]; omega)) (by first | omega | (simp; omega) | (simp [*]; omega))) rfl fun a hA => ?_
    refine sl hA (lo_call fn17 rfl (own6_any _ (ds.drop (2 ^ k)) (hds.drop _) (Own.rd0 hO_t47 hH 4 rfl) (by omega))) rfl ?_
    rintro _ w ⟨v_t48, N_t48, rfl, hO_t48, hC⟩ a hA
    replace hH := HS.call0 hH hC
    clear hC
    refine sl hA (lo_call fn16 rfl (root_any (hg.mono0 hH) _ (ds.drop (2 ^ k)) (hds.drop _) (Own.rd0 hO_t48 hH 0 rfl) (k) (by omega) (hkd))) rfl ?_
    rintro _ w ⟨rfl, hC⟩ a hA
    replace hH := HS.call0 hH hC
    clear hC
    refine sq hA (q_move rfl) rfl fun a hA => ?_
    refine sq hA (q_extract rfl rfl) rfl fun a hA => ?_
    refine sq hA (q_extract rfl rfl) rfl fun a hA => ?_
    refine sl hA (lo_allocA hH ti24) rfl ?_
    clear hH; rintro _ w ⟨b_t7, rfl, hH⟩ a hA
    refine s0 hA (lo_storeAm hH ti24 rfl rfl (by first | rfl | (simp; done) | (rw [List.length_map]; exact hrb) | exact hrb) (by first | rfl | (simp; done) | (rw [List.length_map]; exact hrb) | exact hrb) (one_B8 _)) ?_
    clear hH; rintro _ w hH
    refine sq hA (q_assign rfl) rfl fun a hA => ?_
    refine wpList_nil ?_
    refine hK8 _ _ ?_
    clear hK8
    replace hA := hA.sub (E' := [(8, _), (7, _), (6, _), (5, _), (4, _), (3, _), (2, _)]) ⟨rfl, rfl, rfl, rfl, rfl, rfl, rfl, trivial⟩
    refine wp_seq_k fun K9 hK9 => ?_
    refine any_go mixed (fun _ => true) hH ?_
    clear hH; intro w hH
    have hS := hH
    change wpK _ _ _ _ _ _ 21 #[false, false, false, false, false, false, false, false, false, false, false, false, false, false, false, false, false, false, false, false, false] _ _
    refine apq hA 0 rfl (by kernel_rfl) (by intro c a d v w h; cases d <;> exact h) (fun w => (q_move rfl)) rfl (listed' := #[true, false, false, false, false, false, false, false, false, false, false, false, false, false, false, false, false, false, false, false, false]) rfl fun a hA => ?_
    refine apq hA 1 rfl (by kernel_rfl) (by intro c a d v w h; cases d <;> exact h) (fun w => (Runs.bt (q_eqlI (n := 0) rfl rfl) (by rfl))) rfl (listed' := #[true, true, false, false, false, false, false, false, false, false, false, false, false, false, false, false, false, false, false, false, false]) rfl fun a hA => ?_
    refine apq hA 2 rfl (by kernel_rfl) (by intro c a d v w h; cases d <;> exact h) (fun w => (q_move rfl)) rfl (listed' := #[true, true, true, false, false, false, false, false, false, false, false, false, false, false, false, false, false, false, false, false, false]) rfl fun a hA => ?_
    refine apgq hA 3 rfl (by kernel_rfl) rfl rfl (by intro c a d v w h; cases d <;> exact h) (fun w => (q_move rfl)) rfl (listed' := #[true, true, true, true, false, false, false, false, false, false, false, false, false, false, false, false, false, false, false, false, false]) rfl fun a hA => ?_
    refine apgq hA 4 rfl (by kernel_rfl) rfl rfl (by intro c a d v w h; cases d <;> exact h) (fun w => (Runs.bt (q_eqlI (n := 0) rfl rfl) (by rfl))) rfl (listed' := #[true, true, true, true, true, false, false, false, false, false, false, false, false, false, false, false, false, false, false, false, false]) rfl fun a hA => ?_
    refine apq hA 5 rfl (by kernel_rfl) (by intro c a d v w h; cases d <;> exact h) (fun w => (q_pick_t rfl rfl)) rfl (listed' := #[true, true, true, true, true, true, false, false, false, false, false, false, false, false, false, false, false, false, false, false, false]) rfl fun a hA => ?_
    refine apq hA 6 rfl (by kernel_rfl) (by intro c a d v w h; cases d <;> exact h) (fun w => (q_move rfl)) rfl (listed' := #[true, true, true, true, true, true, true, false, false, false, false, false, false, false, false, false, false, false, false, false, false]) rfl fun a hA => ?_
    refine apgq hA 7 rfl (by kernel_rfl) rfl rfl (by intro c a d v w h; cases d <;> exact h) (fun w => (q_move rfl)) rfl (listed' := #[true, true, true, true, true, true, true, true, false, false, false, false, false, false, false, false, false, false, false, false, false]) rfl fun a hA => ?_
    refine apgq hA 8 rfl (by kernel_rfl) rfl rfl (by intro c a d v w h; cases d <;> exact h) (fun w => (Runs.bt (q_eqlI (n := 0) rfl rfl) (by rfl))) rfl (listed' := #[true, true, true, true, true, true, true, true, true, false, false, false, false, false, false, false, false, false, false, false, false]) rfl fun a hA => ?_
    refine apq hA 9 rfl (by kernel_rfl) (by intro c a d v w h; cases d <;> exact h) (fun w => (q_pick_t rfl rfl)) rfl (listed' := #[true, true, true, true, true, true, true, true, true, true, false, false, false, false, false, false, false, false, false, false, false]) rfl fun a hA => ?_
    refine apq hA 10 rfl (by kernel_rfl) (by intro c a d v w h; cases d <;> exact h) (fun w => (q_move rfl)) rfl (listed' := #[true, true, true, true, true, true, true, true, true, true, true, false, false, false, false, false, false, false, false, false, false]) rfl fun a hA => ?_
    refine agq hA 11 rfl (by kernel_rfl) rfl rfl (by intro c a d v w h; cases d <;> exact h) hS (fun w hH => (q_loadW hH 4 rfl Tryd.underlying24 rfl ti24 rfl (by first | rfl | (simp; done) | (rw [List.length_map]; exact hrt) | exact hrt))) rfl (listed' := #[true, true, true, true, true, true, true, true, true, true, true, true, false, false, false, false, false, false, false, false, false]) rfl fun a hA => ?_
    refine agq hA 12 rfl (by kernel_rfl) rfl rfl (by intro c a d v w h; cases d <;> exact h) hS (fun w hH => (q_loadW hH 2 rfl Tryd.underlying24 rfl ti24 rfl (by first | rfl | (simp; done) | (rw [List.length_map]; exact hra) | exact hra))) rfl (listed' := #[true, true, true, true, true, true, true, true, true, true, true, true, true, false, false, false, false, false, false, false, false]) rfl fun a hA => ?_
    refine agq hA 13 rfl (by kernel_rfl) rfl rfl (by intro c a d v w h; cases d <;> exact h) hS (fun w hH => (q_loadW hH 0 rfl Tryd.underlying24 rfl ti24 rfl (by first | rfl | (simp; done) | (rw [List.length_map]; exact hrb) | exact hrb))) rfl (listed' := #[true, true, true, true, true, true, true, true, true, true, true, true, true, true, false, false, false, false, false, false, false]) rfl fun a hA => ?_
    refine agl hA 14 rfl (by kernel_rfl) rfl rfl (lo_call fn19 rfl (above_any (hg.mono0 hH) ((lvls (ds.take (2 ^ k)) k).getD 0 []) ((lvls (ds.drop (2 ^ k)) k).getD 0 []) hra hrb)) rfl (listed' := #[true, true, true, true, true, true, true, true, true, true, true, true, true, true, true, false, false, false, false, false, false]) rfl ?_
    rintro _ w ⟨rfl, hC⟩
    replace hH := HS.call0 hH hC
    clear hC
    have hS' := hH.pick [0, 1, 2, 3, 4, 5, 6] (Hs' := [_, _, _, _, _, _, _]) rfl
    replace hS := hS'; clear hS'
    refine ⟨fun _ _ => hS, ?_⟩
    intro a hA
    refine apgq hA 15 rfl (by kernel_rfl) rfl rfl (by intro c a d v w h; cases d <;> exact h) (fun w => (Runs.bt (q_eqlA8 (p := (lvls ds m).getD 0 []) (q := ab ((lvls (ds.take (2 ^ k)) k).getD 0 []) ((lvls (ds.drop (2 ^ k)) k).getD 0 [])) eqa24 rfl rfl rfl rfl (by first | exact hrt | simp) (by first | exact hrt | simp)) (by exact hrh))) rfl (listed' := #[true, true, true, true, true, true, true, true, true, true, true, true, true, true, true, true, false, false, false, false, false]) rfl fun a hA => ?_
    refine apq hA 16 rfl (by kernel_rfl) (by intro c a d v w h; cases d <;> exact h) (fun w => (q_pick_t rfl rfl)) rfl (listed' := #[true, true, true, true, true, true, true, true, true, true, true, true, true, true, true, true, true, false, false, false, false]) rfl fun a hA => ?_
    refine apq hA 17 rfl (by kernel_rfl) (by intro c a d v w h; cases d <;> exact h) (fun w => (q_move rfl)) rfl (listed' := #[true, true, true, true, true, true, true, true, true, true, true, true, true, true, true, true, true, true, false, false, false]) rfl fun a hA => ?_
    refine agl hA 18 rfl (by kernel_rfl) rfl rfl (lo_call fn15 rfl (awake6_any (hg.mono0 hH))) rfl (listed' := #[true, true, true, true, true, true, true, true, true, true, true, true, true, true, true, true, true, true, true, false, false]) rfl ?_
    rintro _ w ⟨rfl, hC⟩
    replace hH := HS.call0 hH hC
    clear hC
    have hS' := hH.pick [0, 1, 2, 3, 4, 5, 6] (Hs' := [_, _, _, _, _, _, _]) rfl
    replace hS := hS'; clear hS'
    refine ⟨fun _ _ => hS, ?_⟩
    intro a hA
    refine apq hA 19 rfl (by kernel_rfl) (by intro c a d v w h; cases d <;> exact h) (fun w => (q_pick_t rfl rfl)) rfl (listed' := #[true, true, true, true, true, true, true, true, true, true, true, true, true, true, true, true, true, true, true, true, false]) rfl fun a hA => ?_
    refine apq hA 20 rfl (by kernel_rfl) (by intro c a d v w h; cases d <;> exact h) (fun w => (q_assign rfl)) rfl (listed' := #[true, true, true, true, true, true, true, true, true, true, true, true, true, true, true, true, true, true, true, true, true]) rfl fun a hA => ?_
    refine a_end (by kernel_rfl) ?_ _
    refine hK9 _ _ ?_
    clear hK9
    replace hA := hA.sub (E' := [(2, _)]) ⟨rfl, trivial⟩
    refine wp_ret ?_
    refine post_ret hA (res_1 rfl hA rfl) ?_
    replace hH := hH.pick [] (Hs' := []) rfl
    exact ⟨_, rfl, rfl, hH⟩

end Go.Proofs.YtommjkbbgmkdoaaDoor
