/- Layer 6 (tree): laws of chapter 06. -/
import Derived.Test.YtommjkbbgmkdoaaDoorCc
namespace Go.Proofs.YtommjkbbgmkdoaaDoor
open Go
set_option linter.unusedVariables false
set_option linter.unusedSimpArgs false
set_option maxRecDepth 100000

theorem treeClimbs_ok {w0 : World} (hg : Gl 2 w0) (p : Bs) (i : Nat) (v : Value) (ds : List Bs) (hp : p.length = 32) (hd : Dg ds) (hr : RdD [] w0 v ds) (hl : ds.length ≤ 1048576) (hl2 : ds.length ≤ 10) (hi : i < 2 ^ ds.length) (hi9 : i ≤ 9223372036854775807) :
    Calls Tryd.prog 6 #[(.agg ((p).map B8).toArray), I i, v] w0 (Ret fun r w' => r = .bool true ∧ HS [] w0 w' []) := by
  have hH := HS.start w0
  refine start (n := 41) (E := [(0, _), (1, _), (2, _)]) Tryd.func6 rfl rfl rfl (args_look rfl) ?_
  intro a hA
  have hvl : (clm p i ds ds.length).length = 32 := by first | (simp; done) | exact clm_length hp _ _ _
  refine wp_seq_k fun K1 hK1 => ?_
  refine wp_region_lit ?_
  refine sl hA (lo_boxA hH rfl) rfl ?_
  clear hH; rintro _ w ⟨b_t3, rfl, hH⟩ a hA
  refine sq hA (q_assign rfl) rfl fun a hA => ?_
  refine wpList_nil ?_
  refine hK1 _ _ ?_
  clear hK1
  replace hA := hA.sub (E' := [(6, _), (3, _), (1, _), (2, _)]) ⟨rfl, rfl, rfl, rfl, trivial⟩
  refine wp_seq_k fun K2 hK2 => ?_
  refine wp_seq_k fun K3 hK3 => ?_
  refine wp_region_lit ?_
  refine sq hA (q_move rfl) rfl fun a hA => ?_
  refine sq hA (q_len Tryd.underlying22 rfl (Rd.shp hr)) rfl fun a hA => ?_
  rcases Classical.em (200 < ds.length) with hs13 | hs13
  · skip
    refine sq hA (Runs.bt (q_gtrI (n := 200) rfl rfl) (by omega)) rfl fun a hA => ?_
    refine wpList_nil ?_
    refine hK3 _ _ ?_
    clear hK3
    replace hA := hA.sub (E' := [(13, _), (6, _), (3, _), (1, _), (2, _)]) ⟨rfl, rfl, rfl, rfl, rfl, trivial⟩
    refine cond_t hA rfl ?_
    refine wp_seq_k fun K4 hK4 => ?_
    refine wp_region_lit ?_
    refine sl hA (lo_call fn15 rfl (awake6_any (hg.mono0 hH))) rfl ?_
    rintro _ w ⟨rfl, hC⟩ a hA
    replace hH := HS.call0 hH hC
    clear hC
    refine sq hA (q_assign rfl) rfl fun a hA => ?_
    refine wpList_nil ?_
    refine hK4 _ _ ?_
    clear hK4
    replace hA := hA.sub (E' := [(6, _), (3, _), (1, _), (2, _)]) ⟨rfl, rfl, rfl, rfl, trivial⟩
    refine wp_ret ?_
    refine then_ret ?_
    refine post_ret hA (res_1 rfl hA rfl) ?_
    replace hH := hH.pick [] (Hs' := []) rfl
    exact ⟨_, rfl, rfl, hH⟩
  · skip
    refine sq hA (Runs.bf (q_gtrI (n := 200) rfl rfl) (by omega)) rfl fun a hA => ?_
    refine wpList_nil ?_
    refine hK3 _ _ ?_
    clear hK3
    replace hA := hA.sub (E' := [(13, _), (6, _), (3, _), (1, _), (2, _)]) ⟨rfl, rfl, rfl, rfl, rfl, trivial⟩
    refine cond_f hA rfl ?_
    refine wp_skip ?_
    refine hK2 _ _ ?_
    clear hK2
    replace hA := hA.sub (E' := [(6, _), (3, _), (1, _), (2, _)]) ⟨rfl, rfl, rfl, rfl, trivial⟩
    refine wp_seq_k fun K5 hK5 => ?_
    refine any_go mixed (fun j => !(Nat.beq j 4 || Nat.beq j 9)) hH ?_
    clear hH; intro w hH
    have hS := hH
    change wpK _ _ _ _ _ _ 11 #[false, false, false, false, false, false, false, false, false, false, false] _ _
    refine aq hA 0 rfl (by kernel_rfl) (by intro c a d v w h; cases d <;> exact h) hS (fun w hH => (q_loadW hH 0 rfl Tryd.underlying24 rfl ti24 rfl (by first | omega | (simp; done) | (simp; omega) | (rw [List.length_map]; assumption) | assumption | rfl | (simp [*]; done) | (simp [*]; omega)))) rfl (listed' := #[true, false, false, false, false, false, false, false, false, false, false]) rfl fun a hA => ?_
    refine apq hA 1 rfl (by kernel_rfl) (by intro c a d v w h; cases d <;> exact h) (fun w => (q_move rfl)) rfl (listed' := #[true, true, false, false, false, false, false, false, false, false, false]) rfl fun a hA => ?_
    refine apq hA 2 rfl (by kernel_rfl) (by intro c a d v w h; cases d <;> exact h) (fun w => (q_move rfl)) rfl (listed' := #[true, true, true, false, false, false, false, false, false, false, false]) rfl fun a hA => ?_
    refine a_ch2 (i := 3) (j := 8) (by kernel_rfl) ?_ ?_
    · skip
      refine oneL hA 3 rfl (lo_call fn17 rfl (own6_any _ (ds) hd (hH.rd hr) (by omega))) rfl (listed' := #[true, true, true, true, false, false, false, false, false, false, false]) rfl ?_
      rintro _ w ⟨v_t19, N_t19, rfl, hO_t19, hC⟩
      replace hH := HS.call0 hH hC
      clear hC
      have hS' := hH.pick [1] (Hs' := [_]) rfl
      replace hS := hS'; clear hS'
      refine ⟨fun _ _ => hS, ?_⟩
      intro a hA
      refine a_ch2 (i := 4) (j := 8) (by kernel_rfl) ?_ ?_
      · skip
        refine oneL hA 4 rfl (lo_call fn25 rfl (climb_any (hg.mono0 hH) p i _ ds hp hd (Own.rd0 hO_t19 hH 0 rfl) hl2 hi)) rfl (listed' := #[true, true, true, true, true, false, false, false, false, false, false]) rfl ?_
        rintro _ w ⟨rfl, hC⟩
        replace hH := HS.call0 hH hC
        clear hC
        refine ⟨fun _ h => absurd h (by decide), ?_⟩
        intro a hA
        refine apq hA 5 rfl (by kernel_rfl) (by intro c a d v w h; cases d <;> exact h) (fun w => (q_move rfl)) rfl (listed' := #[true, true, true, true, true, true, false, false, false, false, false]) rfl fun a hA => ?_
        refine apq hA 6 rfl (by kernel_rfl) (by intro c a d v w h; cases d <;> exact h) (fun w => (q_extract rfl rfl)) rfl (listed' := #[true, true, true, true, true, true, true, false, false, false, false]) rfl fun a hA => ?_
        refine apq hA 7 rfl (by kernel_rfl) (by intro c a d v w h; cases d <;> exact h) (fun w => (q_extract rfl rfl)) rfl (listed' := #[true, true, true, true, true, true, true, true, false, false, false]) rfl fun a hA => ?_
        refine al hA 8 rfl (by kernel_rfl) (lo_allocA hH ti24) rfl (listed' := #[true, true, true, true, true, true, true, true, true, false, false]) rfl ?_
        clear hH; rintro _ w ⟨b_t7, rfl, hH⟩
        have hS' := hH.pick [2] (Hs' := [_]) rfl
        replace hS := hS'; clear hS'
        refine ⟨fun _ _ => hS, ?_⟩
        intro a hA
        refine al0 hA 9 rfl (by kernel_rfl) (lo_storeAm hH ti24 rfl rfl (by first | rfl | (simp; done) | (rw [List.length_map]; exact hvl) | exact hvl) (by first | rfl | (simp; done) | (rw [List.length_map]; exact hvl) | exact hvl) (one_B8 _)) (listed' := #[true, true, true, true, true, true, true, true, true, true, false]) rfl ?_
        clear hH; rintro _ w hH
        refine ⟨fun _ h => absurd h (by decide), ?_⟩
        refine apq hA 10 rfl (by kernel_rfl) (by intro c a d v w h; cases d <;> exact h) (fun w => (q_assign rfl)) rfl (listed' := #[true, true, true, true, true, true, true, true, true, true, true]) rfl fun a hA => ?_
        refine a_end (by kernel_rfl) ?_ _
        refine hK5 _ _ ?_
        clear hK5
        replace hA := hA.sub (E' := [(8, _), (7, _), (6, _), (3, _), (1, _), (2, _)]) ⟨rfl, rfl, rfl, rfl, rfl, rfl, trivial⟩
        refine wp_seq_k fun K6 hK6 => ?_
        refine wp_region_lit ?_
        refine sq hA (q_loadW hH 2 rfl Tryd.underlying24 rfl ti24 rfl (by first | omega | (simp; done) | (simp; omega) | (rw [List.length_map]; assumption) | assumption | rfl | (simp [*]; done) | (simp [*]; omega))) rfl fun a hA => ?_
        refine sq hA (q_move rfl) rfl fun a hA => ?_
        refine sq hA (q_move rfl) rfl fun a hA => ?_
        refine sl hA (lo_call fn26 rfl (refclimb_any (hg.mono0 hH) p i v ds hp hd (hH.rd hr) hl2 hi9 hi)) rfl ?_
        rintro _ w ⟨rfl, hC⟩ a hA
        replace hH := HS.call0 hH hC
        clear hC
        refine sq hA (q_move rfl) rfl fun a hA => ?_
        refine sq hA (q_extract rfl rfl) rfl fun a hA => ?_
        refine sq hA (q_extract rfl rfl) rfl fun a hA => ?_
        refine sl hA (lo_allocA hH ti24) rfl ?_
        clear hH; rintro _ w ⟨b_t9, rfl, hH⟩ a hA
        refine s0 hA (lo_storeAm hH ti24 rfl rfl (by first | rfl | (simp; done) | (rw [List.length_map]; exact hvl) | exact hvl) (by first | rfl | (simp; done) | (rw [List.length_map]; exact hvl) | exact hvl) (one_B8 _)) ?_
        clear hH; rintro _ w hH
        refine sq hA (q_assign rfl) rfl fun a hA => ?_
        refine wpList_nil ?_
        refine hK6 _ _ ?_
        clear hK6
        replace hA := hA.sub (E' := [(10, _), (9, _), (8, _), (7, _), (6, _)]) ⟨rfl, rfl, rfl, rfl, rfl, trivial⟩
        refine wp_seq_k fun K7 hK7 => ?_
        refine wp_region_lit ?_
        refine sq hA (q_loadW hH 1 rfl Tryd.underlying24 rfl ti24 rfl (by first | rfl | (simp; done) | (rw [List.length_map]; exact hvl) | exact hvl)) rfl fun a hA => ?_
        refine sq hA (q_loadW hH 0 rfl Tryd.underlying24 rfl ti24 rfl (by first | rfl | (simp; done) | (rw [List.length_map]; exact hvl) | exact hvl)) rfl fun a hA => ?_
        refine sq hA (Runs.bt (q_eqlA8 (p := clm p i ds ds.length) (q := clm p i ds ds.length) eqa24 rfl rfl rfl rfl (by exact hvl) (by exact hvl)) (by rfl)) rfl fun a hA => ?_
        refine sq hA (q_move rfl) rfl fun a hA => ?_
        refine gq hA rfl rfl (q_move rfl) rfl fun a hA => ?_
        refine gq hA rfl rfl (q_move rfl) rfl fun a hA => ?_
        refine gq hA rfl rfl (Runs.bt (q_eqlI rfl rfl) (by rfl)) rfl fun a hA => ?_
        refine sq hA (q_pick_t rfl rfl) rfl fun a hA => ?_
        refine sq hA (q_move rfl) rfl fun a hA => ?_
        refine gl hA rfl rfl (lo_call fn15 rfl (awake6_any (hg.mono0 hH))) rfl ?_
        rintro _ w ⟨rfl, hC⟩ a hA
        replace hH := HS.call0 hH hC
        clear hC
        refine sq hA (q_pick_t rfl rfl) rfl fun a hA => ?_
        refine sq hA (q_assign rfl) rfl fun a hA => ?_
        refine wpList_nil ?_
        refine hK7 _ _ ?_
        clear hK7
        replace hA := hA.sub (E' := [(6, _)]) ⟨rfl, trivial⟩
        refine wp_ret ?_
        refine post_ret hA (res_1 rfl hA rfl) ?_
        replace hH := hH.pick [] (Hs' := []) rfl
        exact ⟨_, rfl, rfl, hH⟩
      · skip
        refine oneL hA 8 rfl (lo_allocA hH ti24) rfl (listed' := #[true, true, true, true, false, false, false, false, true, false, false]) rfl ?_
        clear hH; rintro _ w ⟨b_t7, rfl, hH⟩
        have hS' := hH.pick [2] (Hs' := [_]) rfl
        replace hS := hS'; clear hS'
        refine ⟨fun _ _ => hS, ?_⟩
        intro a hA
        refine al hA 4 rfl (by kernel_rfl) (lo_call fn25 rfl (climb_any (hg.mono0 hH) p i _ ds hp hd (Own.rd0 hO_t19 hH 1 rfl) hl2 hi)) rfl (listed' := #[true, true, true, true, true, false, false, false, true, false, false]) rfl ?_
        rintro _ w ⟨rfl, hC⟩
        replace hH := HS.call0 hH hC
        clear hC
        refine ⟨fun _ h => absurd h (by decide), ?_⟩
        intro a hA
        refine apq hA 5 rfl (by kernel_rfl) (by intro c a d v w h; cases d <;> exact h) (fun w => (q_move rfl)) rfl (listed' := #[true, true, true, true, true, true, false, false, true, false, false]) rfl fun a hA => ?_
        refine apq hA 6 rfl (by kernel_rfl) (by intro c a d v w h; cases d <;> exact h) (fun w => (q_extract rfl rfl)) rfl (listed' := #[true, true, true, true, true, true, true, false, true, false, false]) rfl fun a hA => ?_
        refine apq hA 7 rfl (by kernel_rfl) (by intro c a d v w h; cases d <;> exact h) (fun w => (q_extract rfl rfl)) rfl (listed' := #[true, true, true, true, true, true, true, true, true, false, false]) rfl fun a hA => ?_
        refine al0 hA 9 rfl (by kernel_rfl) (lo_storeAm hH ti24 rfl rfl (by first | rfl | (simp; done) | (rw [List.length_map]; exact hvl) | exact hvl) (by first | rfl | (simp; done) | (rw [List.length_map]; exact hvl) | exact hvl) (one_B8 _)) (listed' := #[true, true, true, true, true, true, true, true, true, true, false]) rfl ?_
        clear hH; rintro _ w hH
        refine ⟨fun _ h => absurd h (by decide), ?_⟩
        refine apq hA 10 rfl (by kernel_rfl) (by intro c a d v w h; cases d <;> exact h) (fun w => (q_assign rfl)) rfl (listed' := #[true, true, true, true, true, true, true, true, true, true, true]) rfl fun a hA => ?_
        refine a_end (by kernel_rfl) ?_ _
        refine hK5 _ _ ?_
        clear hK5
        replace hA := hA.sub (E' := [(8, _), (7, _), (6, _), (3, _), (1, _), (2, _)]) ⟨rfl, rfl, rfl, rfl, rfl, rfl, trivial⟩
        refine wp_seq_k fun K8 hK8 => ?_
        refine wp_region_lit ?_
        refine sq hA (q_loadW hH 2 rfl Tryd.underlying24 rfl ti24 rfl (by first | omega | (simp; done) | (simp; omega) | (rw [List.length_map]; assumption) | assumption | rfl | (simp [*]; done) | (simp [*]; omega))) rfl fun a hA => ?_
        refine sq hA (q_move rfl) rfl fun a hA => ?_
        refine sq hA (q_move rfl) rfl fun a hA => ?_
        refine sl hA (lo_call fn26 rfl (refclimb_any (hg.mono0 hH) p i v ds hp hd (hH.rd hr) hl2 hi9 hi)) rfl ?_
        rintro _ w ⟨rfl, hC⟩ a hA
        replace hH := HS.call0 hH hC
        clear hC
        refine sq hA (q_move rfl) rfl fun a hA => ?_
        refine sq hA (q_extract rfl rfl) rfl fun a hA => ?_
        refine sq hA (q_extract rfl rfl) rfl fun a hA => ?_
        refine sl hA (lo_allocA hH ti24) rfl ?_
        clear hH; rintro _ w ⟨b_t9, rfl, hH⟩ a hA
        refine s0 hA (lo_storeAm hH ti24 rfl rfl (by first | rfl | (simp; done) | (rw [List.length_map]; exact hvl) | exact hvl) (by first | rfl | (simp; done) | (rw [List.length_map]; exact hvl) | exact hvl) (one_B8 _)) ?_
        clear hH; rintro _ w hH
        refine sq hA (q_assign rfl) rfl fun a hA => ?_
        refine wpList_nil ?_
        refine hK8 _ _ ?_
        clear hK8
        replace hA := hA.sub (E' := [(10, _), (9, _), (8, _), (7, _), (6, _)]) ⟨rfl, rfl, rfl, rfl, rfl, trivial⟩
        refine wp_seq_k fun K9 hK9 => ?_
        refine wp_region_lit ?_
        refine sq hA (q_loadW hH 1 rfl Tryd.underlying24 rfl ti24 rfl (by first | rfl | (simp; done) | (rw [List.length_map]; exact hvl) | exact hvl)) rfl fun a hA => ?_
        refine sq hA (q_loadW hH 0 rfl Tryd.underlying24 rfl ti24 rfl (by first | rfl | (simp; done) | (rw [List.length_map]; exact hvl) | exact hvl)) rfl fun a hA => ?_
        refine sq hA (Runs.bt (q_eqlA8 (p := clm p i ds ds.length) (q := clm p i ds ds.length) eqa24 rfl rfl rfl rfl (by exact hvl) (by exact hvl)) (by rfl)) rfl fun a hA => ?_
        refine sq hA (q_move rfl) rfl fun a hA => ?_
        refine gq hA rfl rfl (q_move rfl) rfl fun a hA => ?_
        refine gq hA rfl rfl (q_move rfl) rfl fun a hA => ?_
        refine gq hA rfl rfl (Runs.bt (q_eqlI rfl rfl) (by rfl)) rfl fun a hA => ?_
        refine sq hA (q_pick_t rfl rfl) rfl fun a hA => ?_
        refine sq hA (q_move rfl) rfl fun a hA => ?_
        refine gl hA rfl rfl (lo_call fn15 rfl (awake6_any (hg.mono0 hH))) rfl ?_
        rintro _ w ⟨rfl, hC⟩ a hA
        replace hH := HS.call0 hH hC
        clear hC
        refine sq hA (q_pick_t rfl rfl) rfl fun a hA => ?_
        refine sq hA (q_assign rfl) rfl fun a hA => ?_
        refine wpList_nil ?_
        refine hK9 _ _ ?_
        clear hK9
        replace hA := hA.sub (E' := [(6, _)]) ⟨rfl, trivial⟩
        refine wp_ret ?_
        refine post_ret hA (res_1 rfl hA rfl) ?_
        replace hH := hH.pick [] (Hs' := []) rfl
        exact ⟨_, rfl, rfl, hH⟩
    · skip
      refine oneL hA 8 rfl (lo_allocA hH ti24) rfl (listed' := #[true, true, true, false, false, false, false, false, true, false, false]) rfl ?_
      clear hH; rintro _ w ⟨b_t7, rfl, hH⟩
      have hS' := hH.pick [1] (Hs' := [_]) rfl
      replace hS := hS'; clear hS'
      refine ⟨fun _ _ => hS, ?_⟩
      intro a hA
      refine al hA 3 rfl (by kernel_rfl) (lo_call fn17 rfl (own6_any _ (ds) hd (hH.rd hr) (by omega))) rfl (listed' := #[true, true, true, true, false, false, false, false, true, false, false]) rfl ?_
      rintro _ w ⟨v_t19, N_t19, rfl, hO_t19, hC⟩
      replace hH := HS.call0 hH hC
      clear hC
      have hS' := hH.pick [2] (Hs' := [_]) rfl
      replace hS := hS'; clear hS'
      refine ⟨fun _ _ => hS, ?_⟩
      intro a hA
      refine al hA 4 rfl (by kernel_rfl) (lo_call fn25 rfl (climb_any (hg.mono0 hH) p i _ ds hp hd (Own.rd0 hO_t19 hH 0 rfl) hl2 hi)) rfl (listed' := #[true, true, true, true, true, false, false, false, true, false, false]) rfl ?_
      rintro _ w ⟨rfl, hC⟩
      replace hH := HS.call0 hH hC
      clear hC
      refine ⟨fun _ h => absurd h (by decide), ?_⟩
      intro a hA
      refine apq hA 5 rfl (by kernel_rfl) (by intro c a d v w h; cases d <;> exact h) (fun w => (q_move rfl)) rfl (listed' := #[true, true, true, true, true, true, false, false, true, false, false]) rfl fun a hA => ?_
      refine apq hA 6 rfl (by kernel_rfl) (by intro c a d v w h; cases d <;> exact h) (fun w => (q_extract rfl rfl)) rfl (listed' := #[true, true, true, true, true, true, true, false, true, false, false]) rfl fun a hA => ?_
      refine apq hA 7 rfl (by kernel_rfl) (by intro c a d v w h; cases d <;> exact h) (fun w => (q_extract rfl rfl)) rfl (listed' := #[true, true, true, true, true, true, true, true, true, false, false]) rfl fun a hA => ?_
      replace hH := hH.pick [1, 0, 2] (Hs' := [_, _, _]) rfl
      refine al0 hA 9 rfl (by kernel_rfl) (lo_storeAm hH ti24 rfl rfl (by first | rfl | (simp; done) | (rw [List.length_map]; exact hvl) | exact hvl) (by first | rfl | (simp; done) | (rw [List.length_map]; exact hvl) | exact hvl) (one_B8 _)) (listed' := #[true, true, true, true, true, true, true, true, true, true, false]) rfl ?_
      clear hH; rintro _ w hH
      refine ⟨fun _ h => absurd h (by decide), ?_⟩
      refine apq hA 10 rfl (by kernel_rfl) (by intro c a d v w h; cases d <;> exact h) (fun w => (q_assign rfl)) rfl (listed' := #[true, true, true, true, true, true, true, true, true, true, true]) rfl fun a hA => ?_
      refine a_end (by kernel_rfl) ?_ _
      refine hK5 _ _ ?_
      clear hK5
      replace hA := hA.sub (E' := [(8, _), (7, _), (6, _), (3, _), (1, _), (2, _)]) ⟨rfl, rfl, rfl, rfl, rfl, rfl, trivial⟩
      refine wp_seq_k fun K10 hK10 => ?_
      refine wp_region_lit ?_
      refine sq hA (q_loadW hH 2 rfl Tryd.underlying24 rfl ti24 rfl (by first | omega | (simp; done) | (simp; omega) | (rw [List.length_map]; assumption) | assumption | rfl | (simp [*]; done) | (simp [*]; omega))) rfl fun a hA => ?_
      refine sq hA (q_move rfl) rfl fun a hA => ?_
      refine sq hA (q_move rfl) rfl fun a hA => ?_
      refine sl hA (lo_call fn26 rfl (refclimb_any (hg.mono0 hH) p i v ds hp hd (hH.rd hr) hl2 hi9 hi)) rfl ?_
      rintro _ w ⟨rfl, hC⟩ a hA
      replace hH := HS.call0 hH hC
      clear hC
      refine sq hA (q_move rfl) rfl fun a hA => ?_
      refine sq hA (q_extract rfl rfl) rfl fun a hA => ?_
      refine sq hA (q_extract rfl rfl) rfl fun a hA => ?_
      refine sl hA (lo_allocA hH ti24) rfl ?_
      clear hH; rintro _ w ⟨b_t9, rfl, hH⟩ a hA
      refine s0 hA (lo_storeAm hH ti24 rfl rfl (by first | rfl | (simp; done) | (rw [List.length_map]; exact hvl) | exact hvl) (by first | rfl | (simp; done) | (rw [List.length_map]; exact hvl) | exact hvl) (one_B8 _)) ?_
      clear hH; rintro _ w hH
      refine sq hA (q_assign rfl) rfl fun a hA => ?_
      refine wpList_nil ?_
      refine hK10 _ _ ?_
      clear hK10
      replace hA := hA.sub (E' := [(10, _), (9, _), (8, _), (7, _), (6, _)]) ⟨rfl, rfl, rfl, rfl, rfl, trivial⟩
      refine wp_seq_k fun K11 hK11 => ?_
      refine wp_region_lit ?_
      refine sq hA (q_loadW hH 1 rfl Tryd.underlying24 rfl ti24 rfl (by first | rfl | (simp; done) | (rw [List.length_map]; exact hvl) | exact hvl)) rfl fun a hA => ?_
      refine sq hA (q_loadW hH 0 rfl Tryd.underlying24 rfl ti24 rfl (by first | rfl | (simp; done) | (rw [List.length_map]; exact hvl) | exact hvl)) rfl fun a hA => ?_
      refine sq hA (Runs.bt (q_eqlA8 (p := clm p i ds ds.length) (q := clm p i ds ds.length) eqa24 rfl rfl rfl rfl (by exact hvl) (by exact hvl)) (by rfl)) rfl fun a hA => ?_
      refine sq hA (q_move rfl) rfl fun a hA => ?_
      refine gq hA rfl rfl (q_move rfl) rfl fun a hA => ?_
      refine gq hA rfl rfl (q_move rfl) rfl fun a hA => ?_
      refine gq hA rfl rfl (Runs.bt (q_eqlI rfl rfl) (by rfl)) rfl fun a hA => ?_
      refine sq hA (q_pick_t rfl rfl) rfl fun a hA => ?_
      refine sq hA (q_move rfl) rfl fun a hA => ?_
      refine gl hA rfl rfl (lo_call fn15 rfl (awake6_any (hg.mono0 hH))) rfl ?_
      rintro _ w ⟨rfl, hC⟩ a hA
      replace hH := HS.call0 hH hC
      clear hC
      refine sq hA (q_pick_t rfl rfl) rfl fun a hA => ?_
      refine sq hA (q_assign rfl) rfl fun a hA => ?_
      refine wpList_nil ?_
      refine hK11 _ _ ?_
      clear hK11
      replace hA := hA.sub (E' := [(6, _)]) ⟨rfl, trivial⟩
      refine wp_ret ?_
      refine post_ret hA (res_1 rfl hA rfl) ?_
      replace hH := hH.pick [] (Hs' := []) rfl
      exact ⟨_, rfl, rfl, hH⟩

theorem treeClimbs_over {w0 : World} (hg : Gl 2 w0) (p : Bs) (i : Nat) (v : Value) (ds : List Bs) (hp : p.length = 32) (hd : Dg ds) (hr : RdD [] w0 v ds) (hl : ds.length ≤ 1048576) (hl2 : ds.length ≤ 10) (hi : 2 ^ ds.length ≤ i) (hi9 : i ≤ 9223372036854775807) :
    Calls Tryd.prog 6 #[(.agg ((p).map B8).toArray), I i, v] w0 (Ret fun r w' => r = .bool true ∧ HS [] w0 w' []) := by
  have hH := HS.start w0
  refine start (n := 41) (E := [(0, _), (1, _), (2, _)]) Tryd.func6 rfl rfl rfl (args_look rfl) ?_
  intro a hA
  have hvl : (List.replicate 32 0#8).length = 32 := by first | (simp; done) | exact clm_length hp _ _ _
  refine wp_seq_k fun K1 hK1 => ?_
  refine wp_region_lit ?_
  refine sl hA (lo_boxA hH rfl) rfl ?_
  clear hH; rintro _ w ⟨b_t3, rfl, hH⟩ a hA
  refine sq hA (q_assign rfl) rfl fun a hA => ?_
  refine wpList_nil ?_
  refine hK1 _ _ ?_
  clear hK1
  replace hA := hA.sub (E' := [(6, _), (3, _), (1, _), (2, _)]) ⟨rfl, rfl, rfl, rfl, trivial⟩
  refine wp_seq_k fun K2 hK2 => ?_
  refine wp_seq_k fun K3 hK3 => ?_
  refine wp_region_lit ?_
  refine sq hA (q_move rfl) rfl fun a hA => ?_
  refine sq hA (q_len Tryd.underlying22 rfl (Rd.shp hr)) rfl fun a hA => ?_
  rcases Classical.em (200 < ds.length) with hs13 | hs13
  · skip
    refine sq hA (Runs.bt (q_gtrI (n := 200) rfl rfl) (by omega)) rfl fun a hA => ?_
    refine wpList_nil ?_
    refine hK3 _ _ ?_
    clear hK3
    replace hA := hA.sub (E' := [(13, _), (6, _), (3, _), (1, _), (2, _)]) ⟨rfl, rfl, rfl, rfl, rfl, trivial⟩
    refine cond_t hA rfl ?_
    refine wp_seq_k fun K4 hK4 => ?_
    refine wp_region_lit ?_
    refine sl hA (lo_call fn15 rfl (awake6_any (hg.mono0 hH))) rfl ?_
    rintro _ w ⟨rfl, hC⟩ a hA
    replace hH := HS.call0 hH hC
    clear hC
    refine sq hA (q_assign rfl) rfl fun a hA => ?_
    refine wpList_nil ?_
    refine hK4 _ _ ?_
    clear hK4
    replace hA := hA.sub (E' := [(6, _), (3, _), (1, _), (2, _)]) ⟨rfl, rfl, rfl, rfl, trivial⟩
    refine wp_ret ?_
    refine then_ret ?_
    refine post_ret hA (res_1 rfl hA rfl) ?_
    replace hH := hH.pick [] (Hs' := []) rfl
    exact ⟨_, rfl, rfl, hH⟩
  · skip
    refine sq hA (Runs.bf (q_gtrI (n := 200) rfl rfl) (by omega)) rfl fun a hA => ?_
    refine wpList_nil ?_
    refine hK3 _ _ ?_
    clear hK3
    replace hA := hA.sub (E' := [(13, _), (6, _), (3, _), (1, _), (2, _)]) ⟨rfl, rfl, rfl, rfl, rfl, trivial⟩
    refine cond_f hA rfl ?_
    refine wp_skip ?_
    refine hK2 _ _ ?_
    clear hK2
    replace hA := hA.sub (E' := [(6, _), (3, _), (1, _), (2, _)]) ⟨rfl, rfl, rfl, rfl, trivial⟩
    refine wp_seq_k fun K5 hK5 => ?_
    refine any_go mixed (fun j => !(Nat.beq j 4 || Nat.beq j 9)) hH ?_
    clear hH; intro w hH
    have hS := hH
    change wpK _ _ _ _ _ _ 11 #[false, false, false, false, false, false, false, false, false, false, false] _ _
    refine aq hA 0 rfl (by kernel_rfl) (by intro c a d v w h; cases d <;> exact h) hS (fun w hH => (q_loadW hH 0 rfl Tryd.underlying24 rfl ti24 rfl (by first | omega | (simp; done) | (simp; omega) | (rw [List.length_map]; assumption) | assumption | rfl | (simp [*]; done) | (simp [*]; omega)))) rfl (listed' := #[true, false, false, false, false, false, false, false, false, false, false]) rfl fun a hA => ?_
    refine apq hA 1 rfl (by kernel_rfl) (by intro c a d v w h; cases d <;> exact h) (fun w => (q_move rfl)) rfl (listed' := #[true, true, false, false, false, false, false, false, false, false, false]) rfl fun a hA => ?_
    refine apq hA 2 rfl (by kernel_rfl) (by intro c a d v w h; cases d <;> exact h) (fun w => (q_move rfl)) rfl (listed' := #[true, true, true, false, false, false, false, false, false, false, false]) rfl fun a hA => ?_
    refine a_ch2 (i := 3) (j := 8) (by kernel_rfl) ?_ ?_
    · skip
      refine oneL hA 3 rfl (lo_call fn17 rfl (own6_any _ (ds) hd (hH.rd hr) (by omega))) rfl (listed' := #[true, true, true, true, false, false, false, false, false, false, false]) rfl ?_
      rintro _ w ⟨v_t19, N_t19, rfl, hO_t19, hC⟩
      replace hH := HS.call0 hH hC
      clear hC
      have hS' := hH.pick [1] (Hs' := [_]) rfl
      replace hS := hS'; clear hS'
      refine ⟨fun _ _ => hS, ?_⟩
      intro a hA
      refine a_ch2 (i := 4) (j := 8) (by kernel_rfl) ?_ ?_
      · skip
        refine oneL hA 4 rfl (lo_call fn25 rfl (climb_bad p (i : Int) _ ds hp hd (Own.rd0 hO_t19 hH 0 rfl) (.inr (.inr (by exact_mod_cast hi))))) rfl (listed' := #[true, true, true, true, true, false, false, false, false, false, false]) rfl ?_
        rintro _ w ⟨rfl, hC⟩
        replace hH := HS.call0 hH hC
        clear hC
        refine ⟨fun _ h => absurd h (by decide), ?_⟩
        intro a hA
        refine apq hA 5 rfl (by kernel_rfl) (by intro c a d v w h; cases d <;> exact h) (fun w => (q_move rfl)) rfl (listed' := #[true, true, true, true, true, true, false, false, false, false, false]) rfl fun a hA => ?_
        refine apq hA 6 rfl (by kernel_rfl) (by intro c a d v w h; cases d <;> exact h) (fun w => (q_extract rfl rfl)) rfl (listed' := #[true, true, true, true, true, true, true, false, false, false, false]) rfl fun a hA => ?_
        refine apq hA 7 rfl (by kernel_rfl) (by intro c a d v w h; cases d <;> exact h) (fun w => (q_extract rfl rfl)) rfl (listed' := #[true, true, true, true, true, true, true, true, false, false, false]) rfl fun a hA => ?_
        refine al hA 8 rfl (by kernel_rfl) (lo_allocA hH ti24) rfl (listed' := #[true, true, true, true, true, true, true, true, true, false, false]) rfl ?_
        clear hH; rintro _ w ⟨b_t7, rfl, hH⟩
        have hS' := hH.pick [2] (Hs' := [_]) rfl
        replace hS := hS'; clear hS'
        refine ⟨fun _ _ => hS, ?_⟩
        intro a hA
        refine al0 hA 9 rfl (by kernel_rfl) (lo_storeAm hH ti24 rfl rfl (by first | rfl | (simp; done) | (rw [List.length_map]; exact hvl) | exact hvl) (by first | rfl | (simp; done) | (rw [List.length_map]; exact hvl) | exact hvl) (one_B8 _)) (listed' := #[true, true, true, true, true, true, true, true, true, true, false]) rfl ?_
        clear hH; rintro _ w hH
        refine ⟨fun _ h => absurd h (by decide), ?_⟩
        refine apq hA 10 rfl (by kernel_rfl) (by intro c a d v w h; cases d <;> exact h) (fun w => (q_assign rfl)) rfl (listed' := #[true, true, true, true, true, true, true, true, true, true, true]) rfl fun a hA => ?_
        refine a_end (by kernel_rfl) ?_ _
        refine hK5 _ _ ?_
        clear hK5
        replace hA := hA.sub (E' := [(8, _), (7, _), (6, _), (3, _), (1, _), (2, _)]) ⟨rfl, rfl, rfl, rfl, rfl, rfl, trivial⟩
        refine wp_seq_k fun K6 hK6 => ?_
        refine wp_region_lit ?_
        refine sq hA (q_loadW hH 2 rfl Tryd.underlying24 rfl ti24 rfl (by first | omega | (simp; done) | (simp; omega) | (rw [List.length_map]; assumption) | assumption | rfl | (simp [*]; done) | (simp [*]; omega))) rfl fun a hA => ?_
        refine sq hA (q_move rfl) rfl fun a hA => ?_
        refine sq hA (q_move rfl) rfl fun a hA => ?_
        refine sl hA (lo_call fn26 rfl (refclimb_over (hg.mono0 hH) p i v ds hp hd (hH.rd hr) hl2 hi9 hi)) rfl ?_
        rintro _ w ⟨rfl, hC⟩ a hA
        replace hH := HS.call0 hH hC
        clear hC
        refine sq hA (q_move rfl) rfl fun a hA => ?_
        refine sq hA (q_extract rfl rfl) rfl fun a hA => ?_
        refine sq hA (q_extract rfl rfl) rfl fun a hA => ?_
        refine sl hA (lo_allocA hH ti24) rfl ?_
        clear hH; rintro _ w ⟨b_t9, rfl, hH⟩ a hA
        refine s0 hA (lo_storeAm hH ti24 rfl rfl (by first | rfl | (simp; done) | (rw [List.length_map]; exact hvl) | exact hvl) (by first | rfl | (simp; done) | (rw [List.length_map]; exact hvl) | exact hvl) (one_B8 _)) ?_
        clear hH; rintro _ w hH
        refine sq hA (q_assign rfl) rfl fun a hA => ?_
        refine wpList_nil ?_
        refine hK6 _ _ ?_
        clear hK6
        replace hA := hA.sub (E' := [(10, _), (9, _), (8, _), (7, _), (6, _)]) ⟨rfl, rfl, rfl, rfl, rfl, trivial⟩
        refine wp_seq_k fun K7 hK7 => ?_
        refine wp_region_lit ?_
        refine sq hA (q_loadW hH 1 rfl Tryd.underlying24 rfl ti24 rfl (by first | rfl | (simp; done) | (rw [List.length_map]; exact hvl) | exact hvl)) rfl fun a hA => ?_
        refine sq hA (q_loadW hH 0 rfl Tryd.underlying24 rfl ti24 rfl (by first | rfl | (simp; done) | (rw [List.length_map]; exact hvl) | exact hvl)) rfl fun a hA => ?_
        refine sq hA (Runs.bt (q_eqlA8 (p := List.replicate 32 0#8) (q := List.replicate 32 0#8) eqa24 rfl rfl rfl rfl (by exact hvl) (by exact hvl)) (by rfl)) rfl fun a hA => ?_
        refine sq hA (q_move rfl) rfl fun a hA => ?_
        refine gq hA rfl rfl (q_move rfl) rfl fun a hA => ?_
        refine gq hA rfl rfl (q_move rfl) rfl fun a hA => ?_
        refine gq hA rfl rfl (Runs.bt (q_eqlI rfl rfl) (by rfl)) rfl fun a hA => ?_
        refine sq hA (q_pick_t rfl rfl) rfl fun a hA => ?_
        refine sq hA (q_move rfl) rfl fun a hA => ?_
        refine gl hA rfl rfl (lo_call fn15 rfl (awake6_any (hg.mono0 hH))) rfl ?_
        rintro _ w ⟨rfl, hC⟩ a hA
        replace hH := HS.call0 hH hC
        clear hC
        refine sq hA (q_pick_t rfl rfl) rfl fun a hA => ?_
        refine sq hA (q_assign rfl) rfl fun a hA => ?_
        refine wpList_nil ?_
        refine hK7 _ _ ?_
        clear hK7
        replace hA := hA.sub (E' := [(6, _)]) ⟨rfl, trivial⟩
        refine wp_ret ?_
        refine post_ret hA (res_1 rfl hA rfl) ?_
        replace hH := hH.pick [] (Hs' := []) rfl
        exact ⟨_, rfl, rfl, hH⟩
      · skip
        refine oneL hA 8 rfl (lo_allocA hH ti24) rfl (listed' := #[true, true, true, true, false, false, false, false, true, false, false]) rfl ?_
        clear hH; rintro _ w ⟨b_t7, rfl, hH⟩
        have hS' := hH.pick [2] (Hs' := [_]) rfl
        replace hS := hS'; clear hS'
        refine ⟨fun _ _ => hS, ?_⟩
        intro a hA
        refine al hA 4 rfl (by kernel_rfl) (lo_call fn25 rfl (climb_bad p (i : Int) _ ds hp hd (Own.rd0 hO_t19 hH 1 rfl) (.inr (.inr (by exact_mod_cast hi))))) rfl (listed' := #[true, true, true, true, true, false, false, false, true, false, false]) rfl ?_
        rintro _ w ⟨rfl, hC⟩
        replace hH := HS.call0 hH hC
        clear hC
        refine ⟨fun _ h => absurd h (by decide), ?_⟩
        intro a hA
        refine apq hA 5 rfl (by kernel_rfl) (by intro c a d v w h; cases d <;> exact h) (fun w => (q_move rfl)) rfl (listed' := #[true, true, true, true, true, true, false, false, true, false, false]) rfl fun a hA => ?_
        refine apq hA 6 rfl (by kernel_rfl) (by intro c a d v w h; cases d <;> exact h) (fun w => (q_extract rfl rfl)) rfl (listed' := #[true, true, true, true, true, true, true, false, true, false, false]) rfl fun a hA => ?_
        refine apq hA 7 rfl (by kernel_rfl) (by intro c a d v w h; cases d <;> exact h) (fun w => (q_extract rfl rfl)) rfl (listed' := #[true, true, true, true, true, true, true, true, true, false, false]) rfl fun a hA => ?_
        refine al0 hA 9 rfl (by kernel_rfl) (lo_storeAm hH ti24 rfl rfl (by first | rfl | (simp; done) | (rw [List.length_map]; exact hvl) | exact hvl) (by first | rfl | (simp; done) | (rw [List.length_map]; exact hvl) | exact hvl) (one_B8 _)) (listed' := #[true, true, true, true, true, true, true, true, true, true, false]) rfl ?_
        clear hH; rintro _ w hH
        refine ⟨fun _ h => absurd h (by decide), ?_⟩
        refine apq hA 10 rfl (by kernel_rfl) (by intro c a d v w h; cases d <;> exact h) (fun w => (q_assign rfl)) rfl (listed' := #[true, true, true, true, true, true, true, true, true, true, true]) rfl fun a hA => ?_
        refine a_end (by kernel_rfl) ?_ _
        refine hK5 _ _ ?_
        clear hK5
        replace hA := hA.sub (E' := [(8, _), (7, _), (6, _), (3, _), (1, _), (2, _)]) ⟨rfl, rfl, rfl, rfl, rfl, rfl, trivial⟩
        refine wp_seq_k fun K8 hK8 => ?_
        refine wp_region_lit ?_
        refine sq hA (q_loadW hH 2 rfl Tryd.underlying24 rfl ti24 rfl (by first | omega | (simp; done) | (simp; omega) | (rw [List.length_map]; assumption) | assumption | rfl | (simp [*]; done) | (simp [*]; omega))) rfl fun a hA => ?_
        refine sq hA (q_move rfl) rfl fun a hA => ?_
        refine sq hA (q_move rfl) rfl fun a hA => ?_
        refine sl hA (lo_call fn26 rfl (refclimb_over (hg.mono0 hH) p i v ds hp hd (hH.rd hr) hl2 hi9 hi)) rfl ?_
        rintro _ w ⟨rfl, hC⟩ a hA
        replace hH := HS.call0 hH hC
        clear hC
        refine sq hA (q_move rfl) rfl fun a hA => ?_
        refine sq hA (q_extract rfl rfl) rfl fun a hA => ?_
        refine sq hA (q_extract rfl rfl) rfl fun a hA => ?_
        refine sl hA (lo_allocA hH ti24) rfl ?_
        clear hH; rintro _ w ⟨b_t9, rfl, hH⟩ a hA
        refine s0 hA (lo_storeAm hH ti24 rfl rfl (by first | rfl | (simp; done) | (rw [List.length_map]; exact hvl) | exact hvl) (by first | rfl | (simp; done) | (rw [List.length_map]; exact hvl) | exact hvl) (one_B8 _)) ?_
        clear hH; rintro _ w hH
        refine sq hA (q_assign rfl) rfl fun a hA => ?_
        refine wpList_nil ?_
        refine hK8 _ _ ?_
        clear hK8
        replace hA := hA.sub (E' := [(10, _), (9, _), (8, _), (7, _), (6, _)]) ⟨rfl, rfl, rfl, rfl, rfl, trivial⟩
        refine wp_seq_k fun K9 hK9 => ?_
        refine wp_region_lit ?_
        refine sq hA (q_loadW hH 1 rfl Tryd.underlying24 rfl ti24 rfl (by first | rfl | (simp; done) | (rw [List.length_map]; exact hvl) | exact hvl)) rfl fun a hA => ?_
        refine sq hA (q_loadW hH 0 rfl Tryd.underlying24 rfl ti24 rfl (by first | rfl | (simp; done) | (rw [List.length_map]; exact hvl) | exact hvl)) rfl fun a hA => ?_
        refine sq hA (Runs.bt (q_eqlA8 (p := List.replicate 32 0#8) (q := List.replicate 32 0#8) eqa24 rfl rfl rfl rfl (by exact hvl) (by exact hvl)) (by rfl)) rfl fun a hA => ?_
        refine sq hA (q_move rfl) rfl fun a hA => ?_
        refine gq hA rfl rfl (q_move rfl) rfl fun a hA => ?_
        refine gq hA rfl rfl (q_move rfl) rfl fun a hA => ?_
        refine gq hA rfl rfl (Runs.bt (q_eqlI rfl rfl) (by rfl)) rfl fun a hA => ?_
        refine sq hA (q_pick_t rfl rfl) rfl fun a hA => ?_
        refine sq hA (q_move rfl) rfl fun a hA => ?_
        refine gl hA rfl rfl (lo_call fn15 rfl (awake6_any (hg.mono0 hH))) rfl ?_
        rintro _ w ⟨rfl, hC⟩ a hA
        replace hH := HS.call0 hH hC
        clear hC
        refine sq hA (q_pick_t rfl rfl) rfl fun a hA => ?_
        refine sq hA (q_assign rfl) rfl fun a hA => ?_
        refine wpList_nil ?_
        refine hK9 _ _ ?_
        clear hK9
        replace hA := hA.sub (E' := [(6, _)]) ⟨rfl, trivial⟩
        refine wp_ret ?_
        refine post_ret hA (res_1 rfl hA rfl) ?_
        replace hH := hH.pick [] (Hs' := []) rfl
        exact ⟨_, rfl, rfl, hH⟩
    · skip
      refine oneL hA 8 rfl (lo_allocA hH ti24) rfl (listed' := #[true, true, true, false, false, false, false, false, true, false, false]) rfl ?_
      clear hH; rintro _ w ⟨b_t7, rfl, hH⟩
      have hS' := hH.pick [1] (Hs' := [_]) rfl
      replace hS := hS'; clear hS'
      refine ⟨fun _ _ => hS, ?_⟩
      intro a hA
      refine al hA 3 rfl (by kernel_rfl) (lo_call fn17 rfl (own6_any _ (ds) hd (hH.rd hr) (by omega))) rfl (listed' := #[true, true, true, true, false, false, false, false, true, false, false]) rfl ?_
      rintro _ w ⟨v_t19, N_t19, rfl, hO_t19, hC⟩
      replace hH := HS.call0 hH hC
      clear hC
      have hS' := hH.pick [2] (Hs' := [_]) rfl
      replace hS := hS'; clear hS'
      refine ⟨fun _ _ => hS, ?_⟩
      intro a hA
      refine al hA 4 rfl (by kernel_rfl) (lo_call fn25 rfl (climb_bad p (i : Int) _ ds hp hd (Own.rd0 hO_t19 hH 0 rfl) (.inr (.inr (by exact_mod_cast hi))))) rfl (listed' := #[true, true, true, true, true, false, false, false, true, false, false]) rfl ?_
      rintro _ w ⟨rfl, hC⟩
      replace hH := HS.call0 hH hC
      clear hC
      refine ⟨fun _ h => absurd h (by decide), ?_⟩
      intro a hA
      refine apq hA 5 rfl (by kernel_rfl) (by intro c a d v w h; cases d <;> exact h) (fun w => (q_move rfl)) rfl (listed' := #[true, true, true, true, true, true, false, false, true, false, false]) rfl fun a hA => ?_
      refine apq hA 6 rfl (by kernel_rfl) (by intro c a d v w h; cases d <;> exact h) (fun w => (q_extract rfl rfl)) rfl (listed' := #[true, true, true, true, true, true, true, false, true, false, false]) rfl fun a hA => ?_
      refine apq hA 7 rfl (by kernel_rfl) (by intro c a d v w h; cases d <;> exact h) (fun w => (q_extract rfl rfl)) rfl (listed' := #[true, true, true, true, true, true, true, true, true, false, false]) rfl fun a hA => ?_
      replace hH := hH.pick [1, 0, 2] (Hs' := [_, _, _]) rfl
      refine al0 hA 9 rfl (by kernel_rfl) (lo_storeAm hH ti24 rfl rfl (by first | rfl | (simp; done) | (rw [List.length_map]; exact hvl) | exact hvl) (by first | rfl | (simp; done) | (rw [List.length_map]; exact hvl) | exact hvl) (one_B8 _)) (listed' := #[true, true, true, true, true, true, true, true, true, true, false]) rfl ?_
      clear hH; rintro _ w hH
      refine ⟨fun _ h => absurd h (by decide), ?_⟩
      refine apq hA 10 rfl (by kernel_rfl) (by intro c a d v w h; cases d <;> exact h) (fun w => (q_assign rfl)) rfl (listed' := #[true, true, true, true, true, true, true, true, true, true, true]) rfl fun a hA => ?_
      refine a_end (by kernel_rfl) ?_ _
      refine hK5 _ _ ?_
      clear hK5
      replace hA := hA.sub (E' := [(8, _), (7, _), (6, _), (3, _), (1, _), (2, _)]) ⟨rfl, rfl, rfl, rfl, rfl, rfl, trivial⟩
      refine wp_seq_k fun K10 hK10 => ?_
      refine wp_region_lit ?_
      refine sq hA (q_loadW hH 2 rfl Tryd.underlying24 rfl ti24 rfl (by first | omega | (simp; done) | (simp; omega) | (rw [List.length_map]; assumption) | assumption | rfl | (simp [*]; done) | (simp [*]; omega))) rfl fun a hA => ?_
      refine sq hA (q_move rfl) rfl fun a hA => ?_
      refine sq hA (q_move rfl) rfl fun a hA => ?_
      refine sl hA (lo_call fn26 rfl (refclimb_over (hg.mono0 hH) p i v ds hp hd (hH.rd hr) hl2 hi9 hi)) rfl ?_
      rintro _ w ⟨rfl, hC⟩ a hA
      replace hH := HS.call0 hH hC
      clear hC
      refine sq hA (q_move rfl) rfl fun a hA => ?_
      refine sq hA (q_extract rfl rfl) rfl fun a hA => ?_
      refine sq hA (q_extract rfl rfl) rfl fun a hA => ?_
      refine sl hA (lo_allocA hH ti24) rfl ?_
      clear hH; rintro _ w ⟨b_t9, rfl, hH⟩ a hA
      refine s0 hA (lo_storeAm hH ti24 rfl rfl (by first | rfl | (simp; done) | (rw [List.length_map]; exact hvl) | exact hvl) (by first | rfl | (simp; done) | (rw [List.length_map]; exact hvl) | exact hvl) (one_B8 _)) ?_
      clear hH; rintro _ w hH
      refine sq hA (q_assign rfl) rfl fun a hA => ?_
      refine wpList_nil ?_
      refine hK10 _ _ ?_
      clear hK10
      replace hA := hA.sub (E' := [(10, _), (9, _), (8, _), (7, _), (6, _)]) ⟨rfl, rfl, rfl, rfl, rfl, trivial⟩
      refine wp_seq_k fun K11 hK11 => ?_
      refine wp_region_lit ?_
      refine sq hA (q_loadW hH 1 rfl Tryd.underlying24 rfl ti24 rfl (by first | rfl | (simp; done) | (rw [List.length_map]; exact hvl) | exact hvl)) rfl fun a hA => ?_
      refine sq hA (q_loadW hH 0 rfl Tryd.underlying24 rfl ti24 rfl (by first | rfl | (simp; done) | (rw [List.length_map]; exact hvl) | exact hvl)) rfl fun a hA => ?_
      refine sq hA (Runs.bt (q_eqlA8 (p := List.replicate 32 0#8) (q := List.replicate 32 0#8) eqa24 rfl rfl rfl rfl (by exact hvl) (by exact hvl)) (by rfl)) rfl fun a hA => ?_
      refine sq hA (q_move rfl) rfl fun a hA => ?_
      refine gq hA rfl rfl (q_move rfl) rfl fun a hA => ?_
      refine gq hA rfl rfl (q_move rfl) rfl fun a hA => ?_
      refine gq hA rfl rfl (Runs.bt (q_eqlI rfl rfl) (by rfl)) rfl fun a hA => ?_
      refine sq hA (q_pick_t rfl rfl) rfl fun a hA => ?_
      refine sq hA (q_move rfl) rfl fun a hA => ?_
      refine gl hA rfl rfl (lo_call fn15 rfl (awake6_any (hg.mono0 hH))) rfl ?_
      rintro _ w ⟨rfl, hC⟩ a hA
      replace hH := HS.call0 hH hC
      clear hC
      refine sq hA (q_pick_t rfl rfl) rfl fun a hA => ?_
      refine sq hA (q_assign rfl) rfl fun a hA => ?_
      refine wpList_nil ?_
      refine hK11 _ _ ?_
      clear hK11
      replace hA := hA.sub (E' := [(6, _)]) ⟨rfl, trivial⟩
      refine wp_ret ?_
      refine post_ret hA (res_1 rfl hA rfl) ?_
      replace hH := hH.pick [] (Hs' := []) rfl
      exact ⟨_, rfl, rfl, hH⟩

theorem treeClimbs_bad {w0 : World} (hg : Gl 2 w0) (p : Bs) (i : Int) (v : Value) (ds : List Bs) (hp : p.length = 32) (hd : Dg ds) (hr : RdD [] w0 v ds) (hl : ds.length ≤ 1048576) (hbad : 10 < ds.length ∨ i < 0) :
    Calls Tryd.prog 6 #[(.agg ((p).map B8).toArray), I i, v] w0 (Ret fun r w' => r = .bool true ∧ HS [] w0 w' []) := by
  have hH := HS.start w0
  refine start (n := 41) (E := [(0, _), (1, _), (2, _)]) Tryd.func6 rfl rfl rfl (args_look rfl) ?_
  intro a hA
  have hvl : (List.replicate 32 0#8).length = 32 := by first | (simp; done) | exact clm_length hp _ _ _
  refine wp_seq_k fun K1 hK1 => ?_
  refine wp_region_lit ?_
  refine sl hA (lo_boxA hH rfl) rfl ?_
  clear hH; rintro _ w ⟨b_t3, rfl, hH⟩ a hA
  refine sq hA (q_assign rfl) rfl fun a hA => ?_
  refine wpList_nil ?_
  refine hK1 _ _ ?_
  clear hK1
  replace hA := hA.sub (E' := [(6, _), (3, _), (1, _), (2, _)]) ⟨rfl, rfl, rfl, rfl, trivial⟩
  refine wp_seq_k fun K2 hK2 => ?_
  refine wp_seq_k fun K3 hK3 => ?_
  refine wp_region_lit ?_
  refine sq hA (q_move rfl) rfl fun a hA => ?_
  refine sq hA (q_len Tryd.underlying22 rfl (Rd.shp hr)) rfl fun a hA => ?_
  rcases Classical.em (200 < ds.length) with hs13 | hs13
  · skip
    refine sq hA (Runs.bt (q_gtrI (n := 200) rfl rfl) (by omega)) rfl fun a hA => ?_
    refine wpList_nil ?_
    refine hK3 _ _ ?_
    clear hK3
    replace hA := hA.sub (E' := [(13, _), (6, _), (3, _), (1, _), (2, _)]) ⟨rfl, rfl, rfl, rfl, rfl, trivial⟩
    refine cond_t hA rfl ?_
    refine wp_seq_k fun K4 hK4 => ?_
    refine wp_region_lit ?_
    refine sl hA (lo_call fn15 rfl (awake6_any (hg.mono0 hH))) rfl ?_
    rintro _ w ⟨rfl, hC⟩ a hA
    replace hH := HS.call0 hH hC
    clear hC
    refine sq hA (q_assign rfl) rfl fun a hA => ?_
    refine wpList_nil ?_
    refine hK4 _ _ ?_
    clear hK4
    replace hA := hA.sub (E' := [(6, _), (3, _), (1, _), (2, _)]) ⟨rfl, rfl, rfl, rfl, trivial⟩
    refine wp_ret ?_
    refine then_ret ?_
    refine post_ret hA (res_1 rfl hA rfl) ?_
    replace hH := hH.pick [] (Hs' := []) rfl
    exact ⟨_, rfl, rfl, hH⟩
  · skip
    refine sq hA (Runs.bf (q_gtrI (n := 200) rfl rfl) (by omega)) rfl fun a hA => ?_
    refine wpList_nil ?_
    refine hK3 _ _ ?_
    clear hK3
    replace hA := hA.sub (E' := [(13, _), (6, _), (3, _), (1, _), (2, _)]) ⟨rfl, rfl, rfl, rfl, rfl, trivial⟩
    refine cond_f hA rfl ?_
    refine wp_skip ?_
    refine hK2 _ _ ?_
    clear hK2
    replace hA := hA.sub (E' := [(6, _), (3, _), (1, _), (2, _)]) ⟨rfl, rfl, rfl, rfl, trivial⟩
    refine wp_seq_k fun K5 hK5 => ?_
    refine any_go mixed (fun j => !(Nat.beq j 4 || Nat.beq j 9)) hH ?_
    clear hH; intro w hH
    have hS := hH
    change wpK _ _ _ _ _ _ 11 #[false, false, false, false, false, false, false, false, false, false, false] _ _
    refine aq hA 0 rfl (by kernel_rfl) (by intro c a d v w h; cases d <;> exact h) hS (fun w hH => (q_loadW hH 0 rfl Tryd.underlying24 rfl ti24 rfl (by first | omega | (simp; done) | (simp; omega) | (rw [List.length_map]; assumption) | assumption | rfl | (simp [*]; done) | (simp [*]; omega)))) rfl (listed' := #[true, false, false, false, false, false, false, false, false, false, false]) rfl fun a hA => ?_
    refine apq hA 1 rfl (by kernel_rfl) (by intro c a d v w h; cases d <;> exact h) (fun w => (q_move rfl)) rfl (listed' := #[true, true, false, false, false, false, false, false, false, false, false]) rfl fun a hA => ?_
    refine apq hA 2 rfl (by kernel_rfl) (by intro c a d v w h; cases d <;> exact h) (fun w => (q_move rfl)) rfl (listed' := #[true, true, true, false, false, false, false, false, false, false, false]) rfl fun a hA => ?_
    refine a_ch2 (i := 3) (j := 8) (by kernel_rfl) ?_ ?_
    · skip
      refine oneL hA 3 rfl (lo_call fn17 rfl (own6_any _ (ds) hd (hH.rd hr) (by omega))) rfl (listed' := #[true, true, true, true, false, false, false, false, false, false, false]) rfl ?_
      rintro _ w ⟨v_t19, N_t19, rfl, hO_t19, hC⟩
      replace hH := HS.call0 hH hC
      clear hC
      have hS' := hH.pick [1] (Hs' := [_]) rfl
      replace hS := hS'; clear hS'
      refine ⟨fun _ _ => hS, ?_⟩
      intro a hA
      refine a_ch2 (i := 4) (j := 8) (by kernel_rfl) ?_ ?_
      · skip
        refine oneL hA 4 rfl (lo_call fn25 rfl (climb_bad p i _ ds hp hd (Own.rd0 hO_t19 hH 0 rfl) (hbad.imp id Or.inl))) rfl (listed' := #[true, true, true, true, true, false, false, false, false, false, false]) rfl ?_
        rintro _ w ⟨rfl, hC⟩
        replace hH := HS.call0 hH hC
        clear hC
        refine ⟨fun _ h => absurd h (by decide), ?_⟩
        intro a hA
        refine apq hA 5 rfl (by kernel_rfl) (by intro c a d v w h; cases d <;> exact h) (fun w => (q_move rfl)) rfl (listed' := #[true, true, true, true, true, true, false, false, false, false, false]) rfl fun a hA => ?_
        refine apq hA 6 rfl (by kernel_rfl) (by intro c a d v w h; cases d <;> exact h) (fun w => (q_extract rfl rfl)) rfl (listed' := #[true, true, true, true, true, true, true, false, false, false, false]) rfl fun a hA => ?_
        refine apq hA 7 rfl (by kernel_rfl) (by intro c a d v w h; cases d <;> exact h) (fun w => (q_extract rfl rfl)) rfl (listed' := #[true, true, true, true, true, true, true, true, false, false, false]) rfl fun a hA => ?_
        refine al hA 8 rfl (by kernel_rfl) (lo_allocA hH ti24) rfl (listed' := #[true, true, true, true, true, true, true, true, true, false, false]) rfl ?_
        clear hH; rintro _ w ⟨b_t7, rfl, hH⟩
        have hS' := hH.pick [2] (Hs' := [_]) rfl
        replace hS := hS'; clear hS'
        refine ⟨fun _ _ => hS, ?_⟩
        intro a hA
        refine al0 hA 9 rfl (by kernel_rfl) (lo_storeAm hH ti24 rfl rfl (by first | rfl | (simp; done) | (rw [List.length_map]; exact hvl) | exact hvl) (by first | rfl | (simp; done) | (rw [List.length_map]; exact hvl) | exact hvl) (one_B8 _)) (listed' := #[true, true, true, true, true, true, true, true, true, true, false]) rfl ?_
        clear hH; rintro _ w hH
        refine ⟨fun _ h => absurd h (by decide), ?_⟩
        refine apq hA 10 rfl (by kernel_rfl) (by intro c a d v w h; cases d <;> exact h) (fun w => (q_assign rfl)) rfl (listed' := #[true, true, true, true, true, true, true, true, true, true, true]) rfl fun a hA => ?_
        refine a_end (by kernel_rfl) ?_ _
        refine hK5 _ _ ?_
        clear hK5
        replace hA := hA.sub (E' := [(8, _), (7, _), (6, _), (3, _), (1, _), (2, _)]) ⟨rfl, rfl, rfl, rfl, rfl, rfl, trivial⟩
        refine wp_seq_k fun K6 hK6 => ?_
        refine wp_region_lit ?_
        refine sq hA (q_loadW hH 2 rfl Tryd.underlying24 rfl ti24 rfl (by first | omega | (simp; done) | (simp; omega) | (rw [List.length_map]; assumption) | assumption | rfl | (simp [*]; done) | (simp [*]; omega))) rfl fun a hA => ?_
        refine sq hA (q_move rfl) rfl fun a hA => ?_
        refine sq hA (q_move rfl) rfl fun a hA => ?_
        refine sl hA (lo_call fn26 rfl (refclimb_bad p i v ds hp hd (hH.rd hr) hbad)) rfl ?_
        rintro _ w ⟨rfl, hC⟩ a hA
        replace hH := HS.call0 hH hC
        clear hC
        refine sq hA (q_move rfl) rfl fun a hA => ?_
        refine sq hA (q_extract rfl rfl) rfl fun a hA => ?_
        refine sq hA (q_extract rfl rfl) rfl fun a hA => ?_
        refine sl hA (lo_allocA hH ti24) rfl ?_
        clear hH; rintro _ w ⟨b_t9, rfl, hH⟩ a hA
        refine s0 hA (lo_storeAm hH ti24 rfl rfl (by first | rfl | (simp; done) | (rw [List.length_map]; exact hvl) | exact hvl) (by first | rfl | (simp; done) | (rw [List.length_map]; exact hvl) | exact hvl) (one_B8 _)) ?_
        clear hH; rintro _ w hH
        refine sq hA (q_assign rfl) rfl fun a hA => ?_
        refine wpList_nil ?_
        refine hK6 _ _ ?_
        clear hK6
        replace hA := hA.sub (E' := [(10, _), (9, _), (8, _), (7, _), (6, _)]) ⟨rfl, rfl, rfl, rfl, rfl, trivial⟩
        refine wp_seq_k fun K7 hK7 => ?_
        refine wp_region_lit ?_
        refine sq hA (q_loadW hH 1 rfl Tryd.underlying24 rfl ti24 rfl (by first | rfl | (simp; done) | (rw [List.length_map]; exact hvl) | exact hvl)) rfl fun a hA => ?_
        refine sq hA (q_loadW hH 0 rfl Tryd.underlying24 rfl ti24 rfl (by first | rfl | (simp; done) | (rw [List.length_map]; exact hvl) | exact hvl)) rfl fun a hA => ?_
        refine sq hA (Runs.bt (q_eqlA8 (p := List.replicate 32 0#8) (q := List.replicate 32 0#8) eqa24 rfl rfl rfl rfl (by exact hvl) (by exact hvl)) (by rfl)) rfl fun a hA => ?_
        refine sq hA (q_move rfl) rfl fun a hA => ?_
        refine gq hA rfl rfl (q_move rfl) rfl fun a hA => ?_
        refine gq hA rfl rfl (q_move rfl) rfl fun a hA => ?_
        refine gq hA rfl rfl (Runs.bt (q_eqlI rfl rfl) (by rfl)) rfl fun a hA => ?_
        refine sq hA (q_pick_t rfl rfl) rfl fun a hA => ?_
        refine sq hA (q_move rfl) rfl fun a hA => ?_
        refine gl hA rfl rfl (lo_call fn15 rfl (awake6_any (hg.mono0 hH))) rfl ?_
        rintro _ w ⟨rfl, hC⟩ a hA
        replace hH := HS.call0 hH hC
        clear hC
        refine sq hA (q_pick_t rfl rfl) rfl fun a hA => ?_
        refine sq hA (q_assign rfl) rfl fun a hA => ?_
        refine wpList_nil ?_
        refine hK7 _ _ ?_
        clear hK7
        replace hA := hA.sub (E' := [(6, _)]) ⟨rfl, trivial⟩
        refine wp_ret ?_
        refine post_ret hA (res_1 rfl hA rfl) ?_
        replace hH := hH.pick [] (Hs' := []) rfl
        exact ⟨_, rfl, rfl, hH⟩
      · skip
        refine oneL hA 8 rfl (lo_allocA hH ti24) rfl (listed' := #[true, true, true, true, false, false, false, false, true, false, false]) rfl ?_
        clear hH; rintro _ w ⟨b_t7, rfl, hH⟩
        have hS' := hH.pick [2] (Hs' := [_]) rfl
        replace hS := hS'; clear hS'
        refine ⟨fun _ _ => hS, ?_⟩
        intro a hA
        refine al hA 4 rfl (by kernel_rfl) (lo_call fn25 rfl (climb_bad p i _ ds hp hd (Own.rd0 hO_t19 hH 1 rfl) (hbad.imp id Or.inl))) rfl (listed' := #[true, true, true, true, true, false, false, false, true, false, false]) rfl ?_
        rintro _ w ⟨rfl, hC⟩
        replace hH := HS.call0 hH hC
        clear hC
        refine ⟨fun _ h => absurd h (by decide), ?_⟩
        intro a hA
        refine apq hA 5 rfl (by kernel_rfl) (by intro c a d v w h; cases d <;> exact h) (fun w => (q_move rfl)) rfl (listed' := #[true, true, true, true, true, true, false, false, true, false, false]) rfl fun a hA => ?_
        refine apq hA 6 rfl (by kernel_rfl) (by intro c a d v w h; cases d <;> exact h) (fun w => (q_extract rfl rfl)) rfl (listed' := #[true, true, true, true, true, true, true, false, true, false, false]) rfl fun a hA => ?_
        refine apq hA 7 rfl (by kernel_rfl) (by intro c a d v w h; cases d <;> exact h) (fun w => (q_extract rfl rfl)) rfl (listed' := #[true, true, true, true, true, true, true, true, true, false, false]) rfl fun a hA => ?_
        refine al0 hA 9 rfl (by kernel_rfl) (lo_storeAm hH ti24 rfl rfl (by first | rfl | (simp; done) | (rw [List.length_map]; exact hvl) | exact hvl) (by first | rfl | (simp; done) | (rw [List.length_map]; exact hvl) | exact hvl) (one_B8 _)) (listed' := #[true, true, true, true, true, true, true, true, true, true, false]) rfl ?_
        clear hH; rintro _ w hH
        refine ⟨fun _ h => absurd h (by decide), ?_⟩
        refine apq hA 10 rfl (by kernel_rfl) (by intro c a d v w h; cases d <;> exact h) (fun w => (q_assign rfl)) rfl (listed' := #[true, true, true, true, true, true, true, true, true, true, true]) rfl fun a hA => ?_
        refine a_end (by kernel_rfl) ?_ _
        refine hK5 _ _ ?_
        clear hK5
        replace hA := hA.sub (E' := [(8, _), (7, _), (6, _), (3, _), (1, _), (2, _)]) ⟨rfl, rfl, rfl, rfl, rfl, rfl, trivial⟩
        refine wp_seq_k fun K8 hK8 => ?_
        refine wp_region_lit ?_
        refine sq hA (q_loadW hH 2 rfl Tryd.underlying24 rfl ti24 rfl (by first | omega | (simp; done) | (simp; omega) | (rw [List.length_map]; assumption) | assumption | rfl | (simp [*]; done) | (simp [*]; omega))) rfl fun a hA => ?_
        refine sq hA (q_move rfl) rfl fun a hA => ?_
        refine sq hA (q_move rfl) rfl fun a hA => ?_
        refine sl hA (lo_call fn26 rfl (refclimb_bad p i v ds hp hd (hH.rd hr) hbad)) rfl ?_
        rintro _ w ⟨rfl, hC⟩ a hA
        replace hH := HS.call0 hH hC
        clear hC
        refine sq hA (q_move rfl) rfl fun a hA => ?_
        refine sq hA (q_extract rfl rfl) rfl fun a hA => ?_
        refine sq hA (q_extract rfl rfl) rfl fun a hA => ?_
        refine sl hA (lo_allocA hH ti24) rfl ?_
        clear hH; rintro _ w ⟨b_t9, rfl, hH⟩ a hA
        refine s0 hA (lo_storeAm hH ti24 rfl rfl (by first | rfl | (simp; done) | (rw [List.length_map]; exact hvl) | exact hvl) (by first | rfl | (simp; done) | (rw [List.length_map]; exact hvl) | exact hvl) (one_B8 _)) ?_
        clear hH; rintro _ w hH
        refine sq hA (q_assign rfl) rfl fun a hA => ?_
        refine wpList_nil ?_
        refine hK8 _ _ ?_
        clear hK8
        replace hA := hA.sub (E' := [(10, _), (9, _), (8, _), (7, _), (6, _)]) ⟨rfl, rfl, rfl, rfl, rfl, trivial⟩
        refine wp_seq_k fun K9 hK9 => ?_
        refine wp_region_lit ?_
        refine sq hA (q_loadW hH 1 rfl Tryd.underlying24 rfl ti24 rfl (by first | rfl | (simp; done) | (rw [List.length_map]; exact hvl) | exact hvl)) rfl fun a hA => ?_
        refine sq hA (q_loadW hH 0 rfl Tryd.underlying24 rfl ti24 rfl (by first | rfl | (simp; done) | (rw [List.length_map]; exact hvl) | exact hvl)) rfl fun a hA => ?_
        refine sq hA (Runs.bt (q_eqlA8 (p := List.replicate 32 0#8) (q := List.replicate 32 0#8) eqa24 rfl rfl rfl rfl (by exact hvl) (by exact hvl)) (by rfl)) rfl fun a hA => ?_
        refine sq hA (q_move rfl) rfl fun a hA => ?_
        refine gq hA rfl rfl (q_move rfl) rfl fun a hA => ?_
        refine gq hA rfl rfl (q_move rfl) rfl fun a hA => ?_
        refine gq hA rfl rfl (Runs.bt (q_eqlI rfl rfl) (by rfl)) rfl fun a hA => ?_
        refine sq hA (q_pick_t rfl rfl) rfl fun a hA => ?_
        refine sq hA (q_move rfl) rfl fun a hA => ?_
        refine gl hA rfl rfl (lo_call fn15 rfl (awake6_any (hg.mono0 hH))) rfl ?_
        rintro _ w ⟨rfl, hC⟩ a hA
        replace hH := HS.call0 hH hC
        clear hC
        refine sq hA (q_pick_t rfl rfl) rfl fun a hA => ?_
        refine sq hA (q_assign rfl) rfl fun a hA => ?_
        refine wpList_nil ?_
        refine hK9 _ _ ?_
        clear hK9
        replace hA := hA.sub (E' := [(6, _)]) ⟨rfl, trivial⟩
        refine wp_ret ?_
        refine post_ret hA (res_1 rfl hA rfl) ?_
        replace hH := hH.pick [] (Hs' := []) rfl
        exact ⟨_, rfl, rfl, hH⟩
    · skip
      refine oneL hA 8 rfl (lo_allocA hH ti24) rfl (listed' := #[true, true, true, false, false, false, false, false, true, false, false]) rfl ?_
      clear hH; rintro _ w ⟨b_t7, rfl, hH⟩
      have hS' := hH.pick [1] (Hs' := [_]) rfl
      replace hS := hS'; clear hS'
      refine ⟨fun _ _ => hS, ?_⟩
      intro a hA
      refine al hA 3 rfl (by kernel_rfl) (lo_call fn17 rfl (own6_any _ (ds) hd (hH.rd hr) (by omega))) rfl (listed' := #[true, true, true, true, false, false, false, false, true, false, false]) rfl ?_
      rintro _ w ⟨v_t19, N_t19, rfl, hO_t19, hC⟩
      replace hH := HS.call0 hH hC
      clear hC
      have hS' := hH.pick [2] (Hs' := [_]) rfl
      replace hS := hS'; clear hS'
      refine ⟨fun _ _ => hS, ?_⟩
      intro a hA
      refine al hA 4 rfl (by kernel_rfl) (lo_call fn25 rfl (climb_bad p i _ ds hp hd (Own.rd0 hO_t19 hH 0 rfl) (hbad.imp id Or.inl))) rfl (listed' := #[true, true, true, true, true, false, false, false, true, false, false]) rfl ?_
      rintro _ w ⟨rfl, hC⟩
      replace hH := HS.call0 hH hC
      clear hC
      refine ⟨fun _ h => absurd h (by decide), ?_⟩
      intro a hA
      refine apq hA 5 rfl (by kernel_rfl) (by intro c a d v w h; cases d <;> exact h) (fun w => (q_move rfl)) rfl (listed' := #[true, true, true, true, true, true, false, false, true, false, false]) rfl fun a hA => ?_
      refine apq hA 6 rfl (by kernel_rfl) (by intro c a d v w h; cases d <;> exact h) (fun w => (q_extract rfl rfl)) rfl (listed' := #[true, true, true, true, true, true, true, false, true, false, false]) rfl fun a hA => ?_
      refine apq hA 7 rfl (by kernel_rfl) (by intro c a d v w h; cases d <;> exact h) (fun w => (q_extract rfl rfl)) rfl (listed' := #[true, true, true, true, true, true, true, true, true, false, false]) rfl fun a hA => ?_
      replace hH := hH.pick [1, 0, 2] (Hs' := [_, _, _]) rfl
      refine al0 hA 9 rfl (by kernel_rfl) (lo_storeAm hH ti24 rfl rfl (by first | rfl | (simp; done) | (rw [List.length_map]; exact hvl) | exact hvl) (by first | rfl | (simp; done) | (rw [List.length_map]; exact hvl) | exact hvl) (one_B8 _)) (listed' := #[true, true, true, true, true, true, true, true, true, true, false]) rfl ?_
      clear hH; rintro _ w hH
      refine ⟨fun _ h => absurd h (by decide), ?_⟩
      refine apq hA 10 rfl (by kernel_rfl) (by intro c a d v w h; cases d <;> exact h) (fun w => (q_assign rfl)) rfl (listed' := #[true, true, true, true, true, true, true, true, true, true, true]) rfl fun a hA => ?_
      refine a_end (by kernel_rfl) ?_ _
      refine hK5 _ _ ?_
      clear hK5
      replace hA := hA.sub (E' := [(8, _), (7, _), (6, _), (3, _), (1, _), (2, _)]) ⟨rfl, rfl, rfl, rfl, rfl, rfl, trivial⟩
      refine wp_seq_k fun K10 hK10 => ?_
      refine wp_region_lit ?_
      refine sq hA (q_loadW hH 2 rfl Tryd.underlying24 rfl ti24 rfl (by first | omega | (simp; done) | (simp; omega) | (rw [List.length_map]; assumption) | assumption | rfl | (simp [*]; done) | (simp [*]; omega))) rfl fun a hA => ?_
      refine sq hA (q_move rfl) rfl fun a hA => ?_
      refine sq hA (q_move rfl) rfl fun a hA => ?_
      refine sl hA (lo_call fn26 rfl (refclimb_bad p i v ds hp hd (hH.rd hr) hbad)) rfl ?_
      rintro _ w ⟨rfl, hC⟩ a hA
      replace hH := HS.call0 hH hC
      clear hC
      refine sq hA (q_move rfl) rfl fun a hA => ?_
      refine sq hA (q_extract rfl rfl) rfl fun a hA => ?_
      refine sq hA (q_extract rfl rfl) rfl fun a hA => ?_
      refine sl hA (lo_allocA hH ti24) rfl ?_
      clear hH; rintro _ w ⟨b_t9, rfl, hH⟩ a hA
      refine s0 hA (lo_storeAm hH ti24 rfl rfl (by first | rfl | (simp; done) | (rw [List.length_map]; exact hvl) | exact hvl) (by first | rfl | (simp; done) | (rw [List.length_map]; exact hvl) | exact hvl) (one_B8 _)) ?_
      clear hH; rintro _ w hH
      refine sq hA (q_assign rfl) rfl fun a hA => ?_
      refine wpList_nil ?_
      refine hK10 _ _ ?_
      clear hK10
      replace hA := hA.sub (E' := [(10, _), (9, _), (8, _), (7, _), (6, _)]) ⟨rfl, rfl, rfl, rfl, rfl, trivial⟩
      refine wp_seq_k fun K11 hK11 => ?_
      refine wp_region_lit ?_
      refine sq hA (q_loadW hH 1 rfl Tryd.underlying24 rfl ti24 rfl (by first | rfl | (simp; done) | (rw [List.length_map]; exact hvl) | exact hvl)) rfl fun a hA => ?_
      refine sq hA (q_loadW hH 0 rfl Tryd.underlying24 rfl ti24 rfl (by first | rfl | (simp; done) | (rw [List.length_map]; exact hvl) | exact hvl)) rfl fun a hA => ?_
      refine sq hA (Runs.bt (q_eqlA8 (p := List.replicate 32 0#8) (q := List.replicate 32 0#8) eqa24 rfl rfl rfl rfl (by exact hvl) (by exact hvl)) (by rfl)) rfl fun a hA => ?_
      refine sq hA (q_move rfl) rfl fun a hA => ?_
      refine gq hA rfl rfl (q_move rfl) rfl fun a hA => ?_
      refine gq hA rfl rfl (q_move rfl) rfl fun a hA => ?_
      refine gq hA rfl rfl (Runs.bt (q_eqlI rfl rfl) (by rfl)) rfl fun a hA => ?_
      refine sq hA (q_pick_t rfl rfl) rfl fun a hA => ?_
      refine sq hA (q_move rfl) rfl fun a hA => ?_
      refine gl hA rfl rfl (lo_call fn15 rfl (awake6_any (hg.mono0 hH))) rfl ?_
      rintro _ w ⟨rfl, hC⟩ a hA
      replace hH := HS.call0 hH hC
      clear hC
      refine sq hA (q_pick_t rfl rfl) rfl fun a hA => ?_
      refine sq hA (q_assign rfl) rfl fun a hA => ?_
      refine wpList_nil ?_
      refine hK11 _ _ ?_
      clear hK11
      replace hA := hA.sub (E' := [(6, _)]) ⟨rfl, trivial⟩
      refine wp_ret ?_
      refine post_ret hA (res_1 rfl hA rfl) ?_
      replace hH := hH.pick [] (Hs' := []) rfl
      exact ⟨_, rfl, rfl, hH⟩

theorem treeClimbs_any {w0 : World} (hg : Gl 2 w0) (p : Bs) (i : Int) (v : Value) (ds : List Bs) (hp : p.length = 32) (hd : Dg ds) (hr : RdD [] w0 v ds) (hl : ds.length ≤ 1048576) (hi9 : i ≤ 9223372036854775807) :
    Calls Tryd.prog 6 #[.agg (p.map B8).toArray, I i, v] w0 (Ret fun r w' => r = .bool true ∧ HS [] w0 w' []) := by
  rcases Classical.em (10 < ds.length ∨ i < 0) with h | h
  · exact treeClimbs_bad hg p i v ds hp hd hr hl h
  · obtain ⟨m, rfl⟩ : ∃ m : Nat, i = m := ⟨i.toNat, by omega⟩
    rcases Nat.lt_or_ge m (2 ^ ds.length) with h2 | h2
    · exact treeClimbs_ok hg p m v ds hp hd hr hl (by omega) h2 (by omega)
    · exact treeClimbs_over hg p m v ds hp hd hr hl (by omega) h2 (by omega)
end Go.Proofs.YtommjkbbgmkdoaaDoor
