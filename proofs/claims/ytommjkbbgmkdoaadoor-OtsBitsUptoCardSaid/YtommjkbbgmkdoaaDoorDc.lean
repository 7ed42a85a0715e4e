/- Layer 5 (ots): the laws of chapter 05. -/
import Derived.Test.YtommjkbbgmkdoaaDoorDb
namespace Go.Proofs.YtommjkbbgmkdoaaDoor
open Go
set_option linter.unusedVariables false
set_option linter.unusedSimpArgs false
set_option maxRecDepth 100000

theorem otsMakes_any {w0 : World} (hg : Gl 2 w0) (s : Bs) (hs : s.length = 32) (n : Int) (v : Value) (sg : List Bs) (hd : Dg sg) (hr : RdD [] w0 v sg) (hl : sg.length ≤ 1048576) :
    Calls Tryd.prog 9 #[(.agg ((s).map B8).toArray), I n, v] w0 (Ret fun r w' => r = .bool true ∧ HS [] w0 w' []) := by
  have hH := HS.start w0
  refine start (n := 47) (E := [(0, _), (1, _), (2, _)]) Tryd.func9 rfl rfl rfl (args_look rfl) ?_
  intro a hA
  have hpd := pubT_dg s n
  have hpl := pubT_len s n
  have hd' : Dg ([] ++ sg) := hd
  refine wp_seq_k fun K1 hK1 => ?_
  refine wp_region_lit ?_
  refine sl hA (lo_boxA hH rfl) rfl ?_
  clear hH; rintro _ w ⟨b_t3, rfl, hH⟩ a hA
  refine sq hA (q_assign rfl) rfl fun a hA => ?_
  refine wpList_nil ?_
  refine hK1 _ _ ?_
  clear hK1
  replace hA := hA.sub (E' := [(6, _), (3, _), (1, _), (2, _)]) ⟨rfl, rfl, rfl, rfl, trivial⟩
  refine wp_seq_k fun K2 hK2 => ?_
  refine wp_seq_k fun K3 hK3 => ?_
  refine wp_region_lit ?_
  refine sq hA (q_move rfl) rfl fun a hA => ?_
  refine sq hA (q_len Tryd.underlying22 rfl (Rd.shp hr)) rfl fun a hA => ?_
  refine sq hA (q_gtrI (n := 600) rfl rfl) rfl fun a hA => ?_
  refine wpList_nil ?_
  refine hK3 _ _ ?_
  clear hK3
  replace hA := hA.sub (E' := [(13, _), (6, _), (3, _), (1, _), (2, _)]) ⟨rfl, rfl, rfl, rfl, rfl, trivial⟩
  refine cond_d hA rfl (fun hc13 => ?_) (fun hc13 => ?_)
  · skip
    refine wp_seq_k fun K4 hK4 => ?_
    refine wp_region_lit ?_
    refine sl hA (lo_call fn27 rfl (awake5_any (hg.mono0 hH))) rfl ?_
    rintro _ w ⟨rfl, hC⟩ a hA
    replace hH := HS.call0 hH hC
    clear hC
    refine sq hA (q_assign rfl) rfl fun a hA => ?_
    refine wpList_nil ?_
    refine hK4 _ _ ?_
    clear hK4
    replace hA := hA.sub (E' := [(6, _), (3, _), (1, _), (2, _)]) ⟨rfl, rfl, rfl, rfl, trivial⟩
    refine wp_ret ?_
    refine then_ret ?_
    refine post_ret hA (res_1 rfl hA rfl) ?_
    replace hH := hH.pick [] (Hs' := []) rfl
    exact ⟨_, rfl, rfl, hH⟩
  · skip
    refine wp_skip ?_
    refine hK2 _ _ ?_
    clear hK2
    replace hA := hA.sub (E' := [(6, _), (3, _), (1, _), (2, _)]) ⟨rfl, rfl, rfl, rfl, trivial⟩
    refine wp_seq_k fun K5 hK5 => ?_
    refine wp_region_lit ?_
    refine sq hA (q_loadW hH 0 rfl Tryd.underlying24 rfl ti24 rfl (by first | omega | (simp; done) | (simp; omega) | (rw [List.length_map]; assumption) | assumption | rfl | (simp [*]; done) | (simp [*]; omega))) rfl fun a hA => ?_
    refine sq hA (q_move rfl) rfl fun a hA => ?_
    refine sl hA (lo_call fn28 rfl (public_tot (hg.mono0 hH) _ (by first | rfl | assumption | exact sha_length _ | (simp; done) | (rw [List.length_map]; assumption) | (simp [*]; done) | omega) _)) rfl ?_
    rintro _ w ⟨v_t18, N_t18, rfl, hO_t18, hC⟩ a hA
    replace hH := HS.call0 hH hC
    clear hC
    refine sq hA (q_move rfl) rfl fun a hA => ?_
    refine sq hA (q_extract rfl rfl) rfl fun a hA => ?_
    refine sq hA (q_extract rfl rfl) rfl fun a hA => ?_
    refine sq hA (q_assign rfl) rfl fun a hA => ?_
    refine sq hA (q_assign rfl) rfl fun a hA => ?_
    refine wpList_nil ?_
    refine hK5 _ _ ?_
    clear hK5
    replace hA := hA.sub (E' := [(8, _), (7, _), (6, _), (3, _), (1, _), (2, _)]) ⟨rfl, rfl, rfl, rfl, rfl, rfl, trivial⟩
    refine wp_seq_k fun K6 hK6 => ?_
    refine wp_region_lit ?_
    refine sq hA (q_loadW hH 1 rfl Tryd.underlying24 rfl ti24 rfl (by first | omega | (simp; done) | (simp; omega) | (rw [List.length_map]; assumption) | assumption | rfl | (simp [*]; done) | (simp [*]; omega))) rfl fun a hA => ?_
    refine sq hA (q_move rfl) rfl fun a hA => ?_
    refine sl hA (lo_call fn29 rfl (refpublic_tot (hg.mono0 hH) _ (by first | rfl | assumption | exact sha_length _ | (simp; done) | (rw [List.length_map]; assumption) | (simp [*]; done) | omega) _)) rfl ?_
    rintro _ w ⟨v_t24, N_t24, rfl, hO_t24, hC⟩ a hA
    replace hH := HS.call0 hH hC
    clear hC
    refine sq hA (q_move rfl) rfl fun a hA => ?_
    refine sq hA (q_extract rfl rfl) rfl fun a hA => ?_
    refine sq hA (q_extract rfl rfl) rfl fun a hA => ?_
    refine sq hA (q_assign rfl) rfl fun a hA => ?_
    refine sq hA (q_assign rfl) rfl fun a hA => ?_
    refine wpList_nil ?_
    refine hK6 _ _ ?_
    clear hK6
    replace hA := hA.sub (E' := [(10, _), (9, _), (8, _), (7, _), (6, _), (2, _)]) ⟨rfl, rfl, rfl, rfl, rfl, rfl, trivial⟩
    refine wp_seq_k fun K7 hK7 => ?_
    refine wp_region_lit ?_
    refine sq hA (q_move rfl) rfl fun a hA => ?_
    refine sq hA (q_move rfl) rfl fun a hA => ?_
    refine sq hA (q_eqlI rfl rfl) rfl fun a hA => ?_
    replace hA := hA.decT (by first | rfl | omega | assumption | (simp; done) | (simp [*]; done))
    refine sq hA (q_move rfl) rfl fun a hA => ?_
    refine gq hA rfl rfl (q_move rfl) rfl fun a hA => ?_
    refine gq hA rfl rfl (q_move rfl) rfl fun a hA => ?_
    refine gl hA rfl rfl (lo_call fn24 rfl (sameD_any _ _ _ _ (by assumption) (by assumption) (Own.rd0 hO_t18 hH 1 rfl) (Own.rd0 hO_t24 hH 0 rfl) (by first | omega | (simp; done) | (simp; omega) | (simp [*]; omega) | (simp at *; omega)) (by first | omega | (simp; done) | (simp; omega) | (simp [*]; omega) | (simp at *; omega)))) rfl ?_
    rintro _ w ⟨rfl, hC⟩ a hA
    replace hH := HS.call0 hH hC
    clear hC
    refine sq hA (q_pick_t rfl rfl) rfl fun a hA => ?_
    replace hA := hA.decT (by first | rfl | omega | assumption | (simp; done) | (simp [*]; done))
    refine sq hA (q_move rfl) rfl fun a hA => ?_
    refine gl hA rfl rfl (lo_buildSlice (e := 24) (vs := []) (cs := []) (k := 32) (bb := 0) (z := undef) hH rfl rfl (fun w => by kernel_rfl)) rfl ?_
    clear hH; rintro v_t36 w ⟨N_t36, hO_t36, hH⟩ a hA
    replace hO_t36 : OwD 24 v_t36 [] N_t36 := hO_t36
    refine gq hA rfl rfl (q_move rfl) rfl fun a hA => ?_
    refine gl hA rfl rfl (lo_appD hH Tryd.underlying22 Tryd.underlying22 (.inl rfl) ti24 rfl rfl rfl hO_t36 (hH.rd hr) (by first | omega | (simp; done) | (simp; omega)) (by first | omega | (simp; done) | (simp; omega))) rfl ?_
    clear hH; rintro v_t38 w ⟨N_t38, hO_t38, hH⟩ a hA
    refine gl hA rfl rfl (lo_call fn30 rfl (oroot_any (hg.mono0 hH) _ _ (by assumption) (Own.rd0 hO_t38 hH 0 rfl) (by first | omega | (simp; done) | (simp; omega) | (simp [*]; omega) | (simp at *; omega)))) rfl ?_
    rintro _ w ⟨rfl, hC⟩ a hA
    replace hH := HS.call0 hH hC
    clear hC
    refine gq hA rfl rfl (q_move rfl) rfl fun a hA => ?_
    refine gl hA rfl rfl (lo_call fn31 rfl (reforoot_any (hg.mono0 hH) _ _ (by assumption) (hH.rd hr) (by first | omega | (simp; done) | (simp; omega) | (simp [*]; omega) | (simp at *; omega)))) rfl ?_
    rintro _ w ⟨rfl, hC⟩ a hA
    replace hH := HS.call0 hH hC
    clear hC
    refine gq hA rfl rfl (q_eqlA8 eqa24 rfl rfl rfl rfl (by first | rfl | assumption | exact sha_length _ | (simp; done) | (rw [List.length_map]; assumption) | (simp [*]; done) | omega) (by first | rfl | assumption | exact sha_length _ | (simp; done) | (rw [List.length_map]; assumption) | (simp [*]; done) | omega)) rfl fun a hA => ?_
    refine sq hA (q_pick_t rfl rfl) rfl fun a hA => ?_
    replace hA := hA.decT (by first | rfl | omega | assumption | (simp; done) | (simp [*]; done))
    refine sq hA (q_move rfl) rfl fun a hA => ?_
    refine gl hA rfl rfl (lo_call fn27 rfl (awake5_any (hg.mono0 hH))) rfl ?_
    rintro _ w ⟨rfl, hC⟩ a hA
    replace hH := HS.call0 hH hC
    clear hC
    refine sq hA (q_pick_t rfl rfl) rfl fun a hA => ?_
    refine sq hA (q_assign rfl) rfl fun a hA => ?_
    refine wpList_nil ?_
    refine hK7 _ _ ?_
    clear hK7
    replace hA := hA.sub (E' := [(6, _)]) ⟨rfl, trivial⟩
    refine wp_ret ?_
    refine post_ret hA (res_1 rfl hA rfl) ?_
    replace hH := hH.pick [] (Hs' := []) rfl
    exact ⟨_, rfl, rfl, hH⟩

theorem otsSigns_any {w0 : World} (hg : Gl 2 w0) (s : Bs) (hs : s.length = 32) (n : Int) (u : Value) (l : Bs) (hu : By [] w0 u l) (hl : l.length ≤ 1048576) (v : Value) (sg : List Bs) (hd : Dg sg) (hr : RdD [] w0 v sg) (hm : sg.length ≤ 1048576) :
    Calls Tryd.prog 10 #[(.agg ((s).map B8).toArray), I n, u, v] w0 (Ret fun r w' => r = .bool true ∧ HS [] w0 w' []) := by
  have hH := HS.start w0
  refine start (n := 79) (E := [(0, _), (1, _), (2, _), (3, _)]) Tryd.func10 rfl rfl rfl (args_look rfl) ?_
  intro a hA
  have hpd := sigT_dg s n l
  have hpl := sigT_len s n l
  have hd' : Dg ([] ++ sg) := hd
  have hrl := recT_length n l sg
  have hrl' := recT_length n l ([] ++ sg)
  refine wp_seq_k fun K1 hK1 => ?_
  refine wp_region_lit ?_
  refine sl hA (lo_boxA hH rfl) rfl ?_
  clear hH; rintro _ w ⟨b_t4, rfl, hH⟩ a hA
  refine sq hA (q_assign rfl) rfl fun a hA => ?_
  refine wpList_nil ?_
  refine hK1 _ _ ?_
  clear hK1
  replace hA := hA.sub (E' := [(8, _), (4, _), (1, _), (2, _), (3, _)]) ⟨rfl, rfl, rfl, rfl, rfl, trivial⟩
  refine wp_seq_k fun K2 hK2 => ?_
  refine wp_seq_k fun K3 hK3 => ?_
  refine wp_region_lit ?_
  refine sq hA (q_move rfl) rfl fun a hA => ?_
  refine sq hA (q_len Tryd.underlying49 rfl (Rd.shp hu)) rfl fun a hA => ?_
  refine sq hA (q_gtrI (n := 500) rfl rfl) rfl fun a hA => ?_
  refine hA.spl (fun hs19 hA => ?_) (fun hs19 hA => ?_)
  · skip
    refine sq hA (q_move rfl) rfl fun a hA => ?_
    refine gs hA rfl rfl rfl rfl fun a hA => ?_
    refine gs hA rfl rfl rfl rfl fun a hA => ?_
    refine gs hA rfl rfl rfl rfl fun a hA => ?_
    refine sq hA (q_pick_t rfl rfl) rfl fun a hA => ?_
    refine wpList_nil ?_
    refine hK3 _ _ ?_
    clear hK3
    replace hA := hA.sub (E' := [(24, _), (8, _), (4, _), (1, _), (2, _), (3, _)]) ⟨rfl, rfl, rfl, rfl, rfl, rfl, trivial⟩
    refine cond_t hA rfl ?_
    refine wp_seq_k fun K4 hK4 => ?_
    refine wp_region_lit ?_
    refine sl hA (lo_call fn27 rfl (awake5_any (hg.mono0 hH))) rfl ?_
    rintro _ w ⟨rfl, hC⟩ a hA
    replace hH := HS.call0 hH hC
    clear hC
    refine sq hA (q_assign rfl) rfl fun a hA => ?_
    refine wpList_nil ?_
    refine hK4 _ _ ?_
    clear hK4
    replace hA := hA.sub (E' := [(8, _), (4, _), (1, _), (2, _), (3, _)]) ⟨rfl, rfl, rfl, rfl, rfl, trivial⟩
    refine wp_ret ?_
    refine then_ret ?_
    refine post_ret hA (res_1 rfl hA rfl) ?_
    replace hH := hH.pick [] (Hs' := []) rfl
    exact ⟨_, rfl, rfl, hH⟩
  · skip
    refine sq hA (q_move rfl) rfl fun a hA => ?_
    refine gq hA rfl rfl (q_move rfl) rfl fun a hA => ?_
    refine gq hA rfl rfl (q_len Tryd.underlying22 rfl (Rd.shp hr)) rfl fun a hA => ?_
    refine gq hA rfl rfl (q_gtrI (n := 600) rfl rfl) rfl fun a hA => ?_
    refine sq hA (q_pick_f rfl rfl) rfl fun a hA => ?_
    refine wpList_nil ?_
    refine hK3 _ _ ?_
    clear hK3
    replace hA := hA.sub (E' := [(24, _), (8, _), (4, _), (1, _), (2, _), (3, _)]) ⟨rfl, rfl, rfl, rfl, rfl, rfl, trivial⟩
    refine cond_d hA rfl (fun hc24 => ?_) (fun hc24 => ?_)
    · skip
      refine wp_seq_k fun K5 hK5 => ?_
      refine wp_region_lit ?_
      refine sl hA (lo_call fn27 rfl (awake5_any (hg.mono0 hH))) rfl ?_
      rintro _ w ⟨rfl, hC⟩ a hA
      replace hH := HS.call0 hH hC
      clear hC
      refine sq hA (q_assign rfl) rfl fun a hA => ?_
      refine wpList_nil ?_
      refine hK5 _ _ ?_
      clear hK5
      replace hA := hA.sub (E' := [(8, _), (4, _), (1, _), (2, _), (3, _)]) ⟨rfl, rfl, rfl, rfl, rfl, trivial⟩
      refine wp_ret ?_
      refine then_ret ?_
      refine post_ret hA (res_1 rfl hA rfl) ?_
      replace hH := hH.pick [] (Hs' := []) rfl
      exact ⟨_, rfl, rfl, hH⟩
    · skip
      refine wp_skip ?_
      refine hK2 _ _ ?_
      clear hK2
      replace hA := hA.sub (E' := [(8, _), (4, _), (1, _), (2, _), (3, _)]) ⟨rfl, rfl, rfl, rfl, rfl, trivial⟩
      refine wp_seq_k fun K6 hK6 => ?_
      refine any_go mixed (fun j => !(Nat.beq j 4)) hH ?_
      clear hH; intro w hH
      have hS := hH
      change wpK _ _ _ _ _ _ 10 #[false, false, false, false, false, false, false, false, false, false] _ _
      refine aq hA 0 rfl (by kernel_rfl) (by intro c a d v w h; cases d <;> exact h) hS (fun w hH => (q_loadW hH 0 rfl Tryd.underlying24 rfl ti24 rfl (by first | omega | (simp; done) | (simp; omega) | (rw [List.length_map]; assumption) | assumption | rfl | (simp [*]; done) | (simp [*]; omega)))) rfl (listed' := #[true, false, false, false, false, false, false, false, false, false]) rfl fun a hA => ?_
      refine apq hA 1 rfl (by kernel_rfl) (by intro c a d v w h; cases d <;> exact h) (fun w => (q_move rfl)) rfl (listed' := #[true, true, false, false, false, false, false, false, false, false]) rfl fun a hA => ?_
      refine apq hA 2 rfl (by kernel_rfl) (by intro c a d v w h; cases d <;> exact h) (fun w => (q_move rfl)) rfl (listed' := #[true, true, true, false, false, false, false, false, false, false]) rfl fun a hA => ?_
      refine al hA 3 rfl (by kernel_rfl) (lo_call fn33 rfl (own5_any _ _ (hH.rd hu) (by first | omega | (simp; done) | (simp; omega) | (simp [*]; omega) | (simp at *; omega)))) rfl (listed' := #[true, true, true, true, false, false, false, false, false, false]) rfl ?_
      rintro _ w ⟨v_t30, N_t30, rfl, hO_t30, hC⟩
      replace hH := HS.call0 hH hC
      clear hC
      have hS' := hH.pick [1] (Hs' := [_]) rfl
      replace hS := hS'; clear hS'
      refine ⟨fun _ _ => hS, ?_⟩
      intro a hA
      refine al hA 4 rfl (by kernel_rfl) (lo_call fn32 rfl (sign_tot (hg.mono0 hH) _ (by first | rfl | assumption | exact sha_length _ | (simp; done) | (rw [List.length_map]; assumption) | (simp [*]; done) | omega) _ _ _ (Own.rd0 hO_t30 hH 0 rfl) (by first | omega | (simp; done) | (simp; omega) | (simp [*]; omega) | (simp at *; omega)))) rfl (listed' := #[true, true, true, true, true, false, false, false, false, false]) rfl ?_
      rintro _ w ⟨v_t31, N_t31, rfl, hO_t31, hC⟩
      replace hH := HS.call0 hH hC
      clear hC
      refine ⟨fun _ h => absurd h (by decide), ?_⟩
      intro a hA
      refine apq hA 5 rfl (by kernel_rfl) (by intro c a d v w h; cases d <;> exact h) (fun w => (q_move rfl)) rfl (listed' := #[true, true, true, true, true, true, false, false, false, false]) rfl fun a hA => ?_
      refine apq hA 6 rfl (by kernel_rfl) (by intro c a d v w h; cases d <;> exact h) (fun w => (q_extract rfl rfl)) rfl (listed' := #[true, true, true, true, true, true, true, false, false, false]) rfl fun a hA => ?_
      refine apq hA 7 rfl (by kernel_rfl) (by intro c a d v w h; cases d <;> exact h) (fun w => (q_extract rfl rfl)) rfl (listed' := #[true, true, true, true, true, true, true, true, false, false]) rfl fun a hA => ?_
      refine apq hA 8 rfl (by kernel_rfl) (by intro c a d v w h; cases d <;> exact h) (fun w => (q_assign rfl)) rfl (listed' := #[true, true, true, true, true, true, true, true, true, false]) rfl fun a hA => ?_
      refine apq hA 9 rfl (by kernel_rfl) (by intro c a d v w h; cases d <;> exact h) (fun w => (q_assign rfl)) rfl (listed' := #[true, true, true, true, true, true, true, true, true, true]) rfl fun a hA => ?_
      refine a_end (by kernel_rfl) ?_ _
      refine hK6 _ _ ?_
      clear hK6
      replace hA := hA.sub (E' := [(10, _), (9, _), (8, _), (4, _), (1, _), (2, _), (3, _)]) ⟨rfl, rfl, rfl, rfl, rfl, rfl, rfl, trivial⟩
      refine wp_seq_k fun K7 hK7 => ?_
      refine wp_region_lit ?_
      refine sq hA (q_loadW hH 2 rfl Tryd.underlying24 rfl ti24 rfl (by first | omega | (simp; done) | (simp; omega) | (rw [List.length_map]; assumption) | assumption | rfl | (simp [*]; done) | (simp [*]; omega))) rfl fun a hA => ?_
      refine sq hA (q_move rfl) rfl fun a hA => ?_
      refine sq hA (q_move rfl) rfl fun a hA => ?_
      refine sl hA (lo_call fn34 rfl (refsign_tot (hg.mono0 hH) _ (by first | rfl | assumption | exact sha_length _ | (simp; done) | (rw [List.length_map]; assumption) | (simp [*]; done) | omega) _ _ _ (hH.rd hu) (by first | omega | (simp; done) | (simp; omega) | (simp [*]; omega) | (simp at *; omega)))) rfl ?_
      rintro _ w ⟨v_t38, N_t38, rfl, hO_t38, hC⟩ a hA
      replace hH := HS.call0 hH hC
      clear hC
      refine sq hA (q_move rfl) rfl fun a hA => ?_
      refine sq hA (q_extract rfl rfl) rfl fun a hA => ?_
      refine sq hA (q_extract rfl rfl) rfl fun a hA => ?_
      refine sq hA (q_assign rfl) rfl fun a hA => ?_
      refine sq hA (q_assign rfl) rfl fun a hA => ?_
      refine wpList_nil ?_
      refine hK7 _ _ ?_
      clear hK7
      replace hA := hA.sub (E' := [(12, _), (11, _), (10, _), (9, _), (8, _), (1, _), (2, _), (3, _)]) ⟨rfl, rfl, rfl, rfl, rfl, rfl, rfl, rfl, trivial⟩
      refine wp_seq_k fun K8 hK8 => ?_
      refine wp_region_lit ?_
      refine sq hA (q_move rfl) rfl fun a hA => ?_
      refine sq hA (q_move rfl) rfl fun a hA => ?_
      refine sl hA (lo_call fn33 rfl (own5_any _ _ (hH.rd hu) (by first | omega | (simp; done) | (simp; omega) | (simp [*]; omega) | (simp at *; omega)))) rfl ?_
      rintro _ w ⟨v_t44, N_t44, rfl, hO_t44, hC⟩ a hA
      replace hH := HS.call0 hH hC
      clear hC
      refine sl hA (lo_buildSlice (e := 24) (vs := []) (cs := []) (k := 32) (bb := 0) (z := undef) hH rfl rfl (fun w => by kernel_rfl)) rfl ?_
      clear hH; rintro v_t45 w ⟨N_t45, hO_t45, hH⟩ a hA
      replace hO_t45 : OwD 24 v_t45 [] N_t45 := hO_t45
      refine sq hA (q_move rfl) rfl fun a hA => ?_
      refine sl hA (lo_appD hH Tryd.underlying22 Tryd.underlying22 (.inl rfl) ti24 rfl rfl rfl hO_t45 (hH.rd hr) (by first | omega | (simp; done) | (simp; omega)) (by first | omega | (simp; done) | (simp; omega))) rfl ?_
      clear hH; rintro v_t47 w ⟨N_t47, hO_t47, hH⟩ a hA
      refine sl hA (lo_call fn35 rfl (recover_tot (hg.mono0 hH) _ _ _ (Own.rd0 hO_t44 hH 1 rfl) (by first | omega | (simp; done) | (simp; omega) | (simp [*]; omega) | (simp at *; omega)) _ _ (by assumption) (Own.rd0 hO_t47 hH 0 rfl) (by first | omega | (simp; done) | (simp; omega) | (simp [*]; omega) | (simp at *; omega)))) rfl ?_
      rintro _ w ⟨rfl, hC⟩ a hA
      replace hH := HS.call0 hH hC
      clear hC
      refine sq hA (q_move rfl) rfl fun a hA => ?_
      refine sq hA (q_extract rfl rfl) rfl fun a hA => ?_
      refine sq hA (q_extract rfl rfl) rfl fun a hA => ?_
      refine sl hA (lo_allocA hH ti24) rfl ?_
      clear hH; rintro _ w ⟨b_t13, rfl, hH⟩ a hA
      refine s0 hA (lo_storeAm hH ti24 rfl rfl (by first | omega | (simp; done) | (simp; omega) | (rw [List.length_map]; assumption) | assumption | rfl | (simp [*]; done) | (simp [*]; omega)) (by first | omega | (simp; done) | (simp; omega) | (rw [List.length_map]; assumption) | assumption | rfl | (simp [*]; done) | (simp [*]; omega)) (one_B8 _)) ?_
      clear hH; rintro _ w hH
      refine sq hA (q_assign rfl) rfl fun a hA => ?_
      refine wpList_nil ?_
      refine hK8 _ _ ?_
      clear hK8
      replace hA := hA.sub (E' := [(14, _), (13, _), (12, _), (11, _), (10, _), (9, _), (8, _), (1, _), (2, _), (3, _)]) ⟨rfl, rfl, rfl, rfl, rfl, rfl, rfl, rfl, rfl, rfl, trivial⟩
      refine wp_seq_k fun K9 hK9 => ?_
      refine wp_region_lit ?_
      refine sq hA (q_move rfl) rfl fun a hA => ?_
      refine sq hA (q_move rfl) rfl fun a hA => ?_
      refine sq hA (q_move rfl) rfl fun a hA => ?_
      refine sl hA (lo_call fn36 rfl (refrecover_tot (hg.mono0 hH) _ _ _ (hH.rd hu) (by first | omega | (simp; done) | (simp; omega) | (simp [*]; omega) | (simp at *; omega)) _ _ (by assumption) (hH.rd hr) (by first | omega | (simp; done) | (simp; omega) | (simp [*]; omega) | (simp at *; omega)))) rfl ?_
      rintro _ w ⟨rfl, hC⟩ a hA
      replace hH := HS.call0 hH hC
      clear hC
      refine sq hA (q_move rfl) rfl fun a hA => ?_
      refine sq hA (q_extract rfl rfl) rfl fun a hA => ?_
      refine sq hA (q_extract rfl rfl) rfl fun a hA => ?_
      refine sl hA (lo_allocA hH ti24) rfl ?_
      clear hH; rintro _ w ⟨b_t15, rfl, hH⟩ a hA
      refine s0 hA (lo_storeAm hH ti24 rfl rfl (by first | omega | (simp; done) | (simp; omega) | (rw [List.length_map]; assumption) | assumption | rfl | (simp [*]; done) | (simp [*]; omega)) (by first | omega | (simp; done) | (simp; omega) | (rw [List.length_map]; assumption) | assumption | rfl | (simp [*]; done) | (simp [*]; omega)) (one_B8 _)) ?_
      clear hH; rintro _ w hH
      refine sq hA (q_assign rfl) rfl fun a hA => ?_
      refine wpList_nil ?_
      refine hK9 _ _ ?_
      clear hK9
      replace hA := hA.sub (E' := [(16, _), (15, _), (14, _), (13, _), (12, _), (11, _), (10, _), (9, _), (8, _)]) ⟨rfl, rfl, rfl, rfl, rfl, rfl, rfl, rfl, rfl, trivial⟩
      refine wp_seq_k fun K10 hK10 => ?_
      refine wp_region_lit ?_
      refine sq hA (q_move rfl) rfl fun a hA => ?_
      refine sq hA (q_move rfl) rfl fun a hA => ?_
      refine sq hA (q_eqlI rfl rfl) rfl fun a hA => ?_
      replace hA := hA.decT (by first | rfl | omega | assumption | (simp; done) | (simp [*]; done))
      refine sq hA (q_move rfl) rfl fun a hA => ?_
      refine gq hA rfl rfl (q_move rfl) rfl fun a hA => ?_
      refine gq hA rfl rfl (q_move rfl) rfl fun a hA => ?_
      refine gl hA rfl rfl (lo_call fn24 rfl (sameD_any _ _ _ _ (by assumption) (by assumption) (Own.rd0 hO_t31 hH 5 rfl) (Own.rd0 hO_t38 hH 4 rfl) (by first | omega | (simp; done) | (simp; omega) | (simp [*]; omega) | (simp at *; omega)) (by first | omega | (simp; done) | (simp; omega) | (simp [*]; omega) | (simp at *; omega)))) rfl ?_
      rintro _ w ⟨rfl, hC⟩ a hA
      replace hH := HS.call0 hH hC
      clear hC
      refine sq hA (q_pick_t rfl rfl) rfl fun a hA => ?_
      replace hA := hA.decT (by first | rfl | omega | assumption | (simp; done) | (simp [*]; done))
      refine sq hA (q_move rfl) rfl fun a hA => ?_
      refine gq hA rfl rfl (q_loadW hH 1 rfl Tryd.underlying24 rfl ti24 rfl (by first | omega | (simp; done) | (simp; omega) | (rw [List.length_map]; assumption) | assumption | rfl | (simp [*]; done) | (simp [*]; omega))) rfl fun a hA => ?_
      refine gq hA rfl rfl (q_loadW hH 0 rfl Tryd.underlying24 rfl ti24 rfl (by first | omega | (simp; done) | (simp; omega) | (rw [List.length_map]; assumption) | assumption | rfl | (simp [*]; done) | (simp [*]; omega))) rfl fun a hA => ?_
      refine gq hA rfl rfl (q_eqlA8 eqa24 rfl rfl rfl rfl (by first | rfl | assumption | exact sha_length _ | (simp; done) | (rw [List.length_map]; assumption) | (simp [*]; done) | omega) (by first | rfl | assumption | exact sha_length _ | (simp; done) | (rw [List.length_map]; assumption) | (simp [*]; done) | omega)) rfl fun a hA => ?_
      refine sq hA (q_pick_t rfl rfl) rfl fun a hA => ?_
      replace hA := hA.decT (by first | rfl | omega | assumption | (simp; done) | (simp [*]; done))
      refine sq hA (q_move rfl) rfl fun a hA => ?_
      refine gq hA rfl rfl (q_move rfl) rfl fun a hA => ?_
      refine gq hA rfl rfl (q_move rfl) rfl fun a hA => ?_
      refine gq hA rfl rfl (q_eqlI rfl rfl) rfl fun a hA => ?_
      refine sq hA (q_pick_t rfl rfl) rfl fun a hA => ?_
      replace hA := hA.decT (by first | rfl | omega | assumption | (simp; done) | (simp [*]; done))
      refine sq hA (q_move rfl) rfl fun a hA => ?_
      refine gl hA rfl rfl (lo_call fn27 rfl (awake5_any (hg.mono0 hH))) rfl ?_
      rintro _ w ⟨rfl, hC⟩ a hA
      replace hH := HS.call0 hH hC
      clear hC
      refine sq hA (q_pick_t rfl rfl) rfl fun a hA => ?_
      refine sq hA (q_assign rfl) rfl fun a hA => ?_
      refine wpList_nil ?_
      refine hK10 _ _ ?_
      clear hK10
      replace hA := hA.sub (E' := [(8, _)]) ⟨rfl, trivial⟩
      refine wp_ret ?_
      refine post_ret hA (res_1 rfl hA rfl) ?_
      replace hH := hH.pick [] (Hs' := []) rfl
      exact ⟨_, rfl, rfl, hH⟩

theorem otsBack_any {w0 : World} {lv : Nat} (hg : Gl lv w0) (s : Bs) (hs : s.length = 32) (n : Int) (u : Value) (l : Bs) (hu : By [] w0 u l) (hl : l.length ≤ 1048576) :
    Calls Tryd.prog 11 #[(.agg ((s).map B8).toArray), I n, u] w0 (Ret fun r w' => r = .bool true ∧ HS [] w0 w' []) := by
  have hH := HS.start w0
  refine start (n := 69) (E := [(0, _), (1, _), (2, _)]) Tryd.func11 rfl rfl rfl (args_look rfl) ?_
  intro a hA
  have hpd := pubT_dg s n
  have hpl := pubT_len s n
  have hsd := sigT_dg s n l
  have hsl := sigT_len s n l
  refine wp_seq_k fun K1 hK1 => ?_
  refine wp_region_lit ?_
  refine sl hA (lo_boxA hH rfl) rfl ?_
  clear hH; rintro _ w ⟨b_t3, rfl, hH⟩ a hA
  refine sq hA (q_assign rfl) rfl fun a hA => ?_
  refine wpList_nil ?_
  refine hK1 _ _ ?_
  clear hK1
  replace hA := hA.sub (E' := [(6, _), (3, _), (1, _), (2, _)]) ⟨rfl, rfl, rfl, rfl, trivial⟩
  refine wp_seq_k fun K2 hK2 => ?_
  refine wp_seq_k fun K3 hK3 => ?_
  refine wp_region_lit ?_
  refine sq hA (q_move rfl) rfl fun a hA => ?_
  refine sq hA (q_len Tryd.underlying49 rfl (Rd.shp hu)) rfl fun a hA => ?_
  refine sq hA (q_gtrI (n := 500) rfl rfl) rfl fun a hA => ?_
  refine wpList_nil ?_
  refine hK3 _ _ ?_
  clear hK3
  replace hA := hA.sub (E' := [(13, _), (6, _), (3, _), (1, _), (2, _)]) ⟨rfl, rfl, rfl, rfl, rfl, trivial⟩
  refine cond_d hA rfl (fun hc13 => ?_) (fun hc13 => ?_)
  · skip
    refine wp_seq_k fun K4 hK4 => ?_
    refine wp_region_lit ?_
    refine sl hA (lo_call fn27 rfl (awake5_any (hg.mono0 hH))) rfl ?_
    rintro _ w ⟨rfl, hC⟩ a hA
    replace hH := HS.call0 hH hC
    clear hC
    refine sq hA (q_assign rfl) rfl fun a hA => ?_
    refine wpList_nil ?_
    refine hK4 _ _ ?_
    clear hK4
    replace hA := hA.sub (E' := [(6, _), (3, _), (1, _), (2, _)]) ⟨rfl, rfl, rfl, rfl, trivial⟩
    refine wp_ret ?_
    refine then_ret ?_
    refine post_ret hA (res_1 rfl hA rfl) ?_
    replace hH := hH.pick [] (Hs' := []) rfl
    exact ⟨_, rfl, rfl, hH⟩
  · skip
    refine wp_skip ?_
    refine hK2 _ _ ?_
    clear hK2
    replace hA := hA.sub (E' := [(6, _), (3, _), (1, _), (2, _)]) ⟨rfl, rfl, rfl, rfl, trivial⟩
    refine wp_seq_k fun K5 hK5 => ?_
    refine wp_region_lit ?_
    refine sq hA (q_loadW hH 0 rfl Tryd.underlying24 rfl ti24 rfl (by first | omega | (simp; done) | (simp; omega) | (rw [List.length_map]; assumption) | assumption | rfl | (simp [*]; done) | (simp [*]; omega))) rfl fun a hA => ?_
    refine sq hA (q_move rfl) rfl fun a hA => ?_
    refine sl hA (lo_call fn28 rfl (public_tot (hg.mono0 hH) _ (by first | rfl | assumption | exact sha_length _ | (simp; done) | (rw [List.length_map]; assumption) | (simp [*]; done) | omega) _)) rfl ?_
    rintro _ w ⟨v_t18, N_t18, rfl, hO_t18, hC⟩ a hA
    replace hH := HS.call0 hH hC
    clear hC
    refine sq hA (q_move rfl) rfl fun a hA => ?_
    refine sq hA (q_extract rfl rfl) rfl fun a hA => ?_
    refine sq hA (q_extract rfl rfl) rfl fun a hA => ?_
    refine sq hA (q_assign rfl) rfl fun a hA => ?_
    refine sq hA (q_assign rfl) rfl fun a hA => ?_
    refine wpList_nil ?_
    refine hK5 _ _ ?_
    clear hK5
    replace hA := hA.sub (E' := [(8, _), (7, _), (6, _), (3, _), (1, _), (2, _)]) ⟨rfl, rfl, rfl, rfl, rfl, rfl, trivial⟩
    refine wp_seq_k fun K6 hK6 => ?_
    refine any_go mixed (fun j => !(Nat.beq j 4)) hH ?_
    clear hH; intro w hH
    have hS := hH
    change wpK _ _ _ _ _ _ 10 #[false, false, false, false, false, false, false, false, false, false] _ _
    refine aq hA 0 rfl (by kernel_rfl) (by intro c a d v w h; cases d <;> exact h) hS (fun w hH => (q_loadW hH 1 rfl Tryd.underlying24 rfl ti24 rfl (by first | omega | (simp; done) | (simp; omega) | (rw [List.length_map]; assumption) | assumption | rfl | (simp [*]; done) | (simp [*]; omega)))) rfl (listed' := #[true, false, false, false, false, false, false, false, false, false]) rfl fun a hA => ?_
    refine apq hA 1 rfl (by kernel_rfl) (by intro c a d v w h; cases d <;> exact h) (fun w => (q_move rfl)) rfl (listed' := #[true, true, false, false, false, false, false, false, false, false]) rfl fun a hA => ?_
    refine apq hA 2 rfl (by kernel_rfl) (by intro c a d v w h; cases d <;> exact h) (fun w => (q_move rfl)) rfl (listed' := #[true, true, true, false, false, false, false, false, false, false]) rfl fun a hA => ?_
    refine al hA 3 rfl (by kernel_rfl) (lo_call fn33 rfl (own5_any _ _ (hH.rd hu) (by first | omega | (simp; done) | (simp; omega) | (simp [*]; omega) | (simp at *; omega)))) rfl (listed' := #[true, true, true, true, false, false, false, false, false, false]) rfl ?_
    rintro _ w ⟨v_t25, N_t25, rfl, hO_t25, hC⟩
    replace hH := HS.call0 hH hC
    clear hC
    have hS' := hH.pick [1, 2] (Hs' := [_, _]) rfl
    replace hS := hS'; clear hS'
    refine ⟨fun _ _ => hS, ?_⟩
    intro a hA
    refine al hA 4 rfl (by kernel_rfl) (lo_call fn32 rfl (sign_tot (hg.mono0 hH) _ (by first | rfl | assumption | exact sha_length _ | (simp; done) | (rw [List.length_map]; assumption) | (simp [*]; done) | omega) _ _ _ (Own.rd0 hO_t25 hH 0 rfl) (by first | omega | (simp; done) | (simp; omega) | (simp [*]; omega) | (simp at *; omega)))) rfl (listed' := #[true, true, true, true, true, false, false, false, false, false]) rfl ?_
    rintro _ w ⟨v_t26, N_t26, rfl, hO_t26, hC⟩
    replace hH := HS.call0 hH hC
    clear hC
    refine ⟨fun _ h => absurd h (by decide), ?_⟩
    intro a hA
    refine apq hA 5 rfl (by kernel_rfl) (by intro c a d v w h; cases d <;> exact h) (fun w => (q_move rfl)) rfl (listed' := #[true, true, true, true, true, true, false, false, false, false]) rfl fun a hA => ?_
    refine apq hA 6 rfl (by kernel_rfl) (by intro c a d v w h; cases d <;> exact h) (fun w => (q_extract rfl rfl)) rfl (listed' := #[true, true, true, true, true, true, true, false, false, false]) rfl fun a hA => ?_
    refine apq hA 7 rfl (by kernel_rfl) (by intro c a d v w h; cases d <;> exact h) (fun w => (q_extract rfl rfl)) rfl (listed' := #[true, true, true, true, true, true, true, true, false, false]) rfl fun a hA => ?_
    refine apq hA 8 rfl (by kernel_rfl) (by intro c a d v w h; cases d <;> exact h) (fun w => (q_assign rfl)) rfl (listed' := #[true, true, true, true, true, true, true, true, true, false]) rfl fun a hA => ?_
    refine apq hA 9 rfl (by kernel_rfl) (by intro c a d v w h; cases d <;> exact h) (fun w => (q_assign rfl)) rfl (listed' := #[true, true, true, true, true, true, true, true, true, true]) rfl fun a hA => ?_
    refine a_end (by kernel_rfl) ?_ _
    refine hK6 _ _ ?_
    clear hK6
    replace hA := hA.sub (E' := [(10, _), (9, _), (8, _), (7, _), (6, _), (1, _), (2, _)]) ⟨rfl, rfl, rfl, rfl, rfl, rfl, rfl, trivial⟩
    refine wp_seq_k fun K7 hK7 => ?_
    refine wp_seq_k fun K8 hK8 => ?_
    refine wp_region_lit ?_
    refine sq hA (q_move rfl) rfl fun a hA => ?_
    refine sl hA (lo_call fn37 rfl (refright5_any _)) rfl ?_
    rintro _ w ⟨rfl, hC⟩ a hA
    replace hH := HS.call0 hH hC
    clear hC
    refine hA.spl (fun hs30 hA => ?_) (fun hs30 hA => ?_)
    · skip
      refine sq hA (q_not rfl) rfl fun a hA => ?_
      refine wpList_nil ?_
      refine hK8 _ _ ?_
      clear hK8
      replace hA := hA.sub (E' := [(31, _), (10, _), (9, _), (8, _), (7, _), (6, _), (1, _), (2, _)]) ⟨rfl, rfl, rfl, rfl, rfl, rfl, rfl, rfl, trivial⟩
      refine cond_f hA rfl ?_
      refine wp_skip ?_
      refine hK7 _ _ ?_
      clear hK7
      replace hA := hA.sub (E' := [(10, _), (9, _), (8, _), (7, _), (6, _), (1, _), (2, _)]) ⟨rfl, rfl, rfl, rfl, rfl, rfl, rfl, trivial⟩
      refine wp_seq_k fun K9 hK9 => ?_
      refine wp_region_lit ?_
      refine sq hA (q_move rfl) rfl fun a hA => ?_
      refine sq hA (q_eqlI (n := 0) rfl rfl) rfl fun a hA => ?_
      replace hA := hA.decT (by first | (simp [pubT, sigT, recT, *]; done) | rfl | omega)
      refine sq hA (q_move rfl) rfl fun a hA => ?_
      refine gq hA rfl rfl (q_move rfl) rfl fun a hA => ?_
      refine gq hA rfl rfl (q_eqlI (n := 0) rfl rfl) rfl fun a hA => ?_
      refine sq hA (q_pick_t rfl rfl) rfl fun a hA => ?_
      replace hA := hA.decT (by first | (simp [pubT, sigT, recT, *]; done) | rfl | omega)
      refine sq hA (q_move rfl) rfl fun a hA => ?_
      refine gq hA rfl rfl (q_move rfl) rfl fun a hA => ?_
      refine gl hA rfl rfl (lo_call fn30 rfl (oroot_any (hg.mono0 hH) _ _ (by assumption) (Own.rd0 hO_t18 hH 2 rfl) (by first | omega | (simp; done) | (simp; omega) | (simp [*]; omega) | (simp at *; omega)))) rfl ?_
      rintro _ w ⟨rfl, hC⟩ a hA
      replace hH := HS.call0 hH hC
      clear hC
      refine gq hA rfl rfl (q_move rfl) rfl fun a hA => ?_
      refine gq hA rfl rfl (q_move rfl) rfl fun a hA => ?_
      refine gl hA rfl rfl (lo_call fn33 rfl (own5_any _ _ (hH.rd hu) (by first | omega | (simp; done) | (simp; omega) | (simp [*]; omega) | (simp at *; omega)))) rfl ?_
      rintro _ w ⟨v_t62, N_t62, rfl, hO_t62, hC⟩ a hA
      replace hH := HS.call0 hH hC
      clear hC
      refine gq hA rfl rfl (q_move rfl) rfl fun a hA => ?_
      refine gl hA rfl rfl (lo_call fn38 rfl (verify_any (hg.mono0 hH) _ (by first | rfl | assumption | exact sha_length _ | (simp; done) | (rw [List.length_map]; assumption) | (simp [*]; done) | omega) _ _ _ (Own.rd0 hO_t62 hH 0 rfl) (by first | omega | (simp; done) | (simp; omega) | (simp [*]; omega) | (simp at *; omega)) _ _ (by assumption) (Own.rd0 hO_t26 hH 1 rfl) (by first | omega | (simp; done) | (simp; omega) | (simp [*]; omega) | (simp at *; omega)))) rfl ?_
      rintro _ w ⟨rfl, hC⟩ a hA
      replace hH := HS.call0 hH hC
      clear hC
      refine sq hA (q_pick_t rfl rfl) rfl fun a hA => ?_
      replace hA := hA.decT (by rw [rec_back hs30]; exact ⟨rfl, rfl⟩)
      refine sq hA (q_move rfl) rfl fun a hA => ?_
      refine gl hA rfl rfl (lo_call fn27 rfl (awake5_any (hg.mono0 hH))) rfl ?_
      rintro _ w ⟨rfl, hC⟩ a hA
      replace hH := HS.call0 hH hC
      clear hC
      refine sq hA (q_pick_t rfl rfl) rfl fun a hA => ?_
      refine sq hA (q_assign rfl) rfl fun a hA => ?_
      refine wpList_nil ?_
      refine hK9 _ _ ?_
      clear hK9
      replace hA := hA.sub (E' := [(6, _)]) ⟨rfl, trivial⟩
      refine wp_ret ?_
      refine post_ret hA (res_1 rfl hA rfl) ?_
      replace hH := hH.pick [] (Hs' := []) rfl
      exact ⟨_, rfl, rfl, hH⟩
    · skip
      refine sq hA (q_not rfl) rfl fun a hA => ?_
      refine wpList_nil ?_
      refine hK8 _ _ ?_
      clear hK8
      replace hA := hA.sub (E' := [(31, _), (10, _), (9, _), (8, _), (7, _), (6, _), (1, _), (2, _)]) ⟨rfl, rfl, rfl, rfl, rfl, rfl, rfl, rfl, trivial⟩
      refine cond_t hA rfl ?_
      refine wp_seq_k fun K10 hK10 => ?_
      refine wp_region_lit ?_
      refine sq hA (q_move rfl) rfl fun a hA => ?_
      refine sq hA (q_eqlI (n := 1) rfl rfl) rfl fun a hA => ?_
      replace hA := hA.decT (by first | (simp [pubT, sigT, recT, *]; done) | rfl | omega)
      refine sq hA (q_move rfl) rfl fun a hA => ?_
      refine gq hA rfl rfl (q_move rfl) rfl fun a hA => ?_
      refine gq hA rfl rfl (q_eqlI (n := 1) rfl rfl) rfl fun a hA => ?_
      refine sq hA (q_pick_t rfl rfl) rfl fun a hA => ?_
      replace hA := hA.decT (by first | (simp [pubT, sigT, recT, *]; done) | rfl | omega)
      refine sq hA (q_move rfl) rfl fun a hA => ?_
      refine gq hA rfl rfl (q_move rfl) rfl fun a hA => ?_
      refine gl hA rfl rfl (lo_call fn30 rfl (oroot_any (hg.mono0 hH) _ _ (by assumption) (Own.rd0 hO_t18 hH 2 rfl) (by first | omega | (simp; done) | (simp; omega) | (simp [*]; omega) | (simp at *; omega)))) rfl ?_
      rintro _ w ⟨rfl, hC⟩ a hA
      replace hH := HS.call0 hH hC
      clear hC
      refine gq hA rfl rfl (q_move rfl) rfl fun a hA => ?_
      refine gq hA rfl rfl (q_move rfl) rfl fun a hA => ?_
      refine gl hA rfl rfl (lo_call fn33 rfl (own5_any _ _ (hH.rd hu) (by first | omega | (simp; done) | (simp; omega) | (simp [*]; omega) | (simp at *; omega)))) rfl ?_
      rintro _ w ⟨v_t43, N_t43, rfl, hO_t43, hC⟩ a hA
      replace hH := HS.call0 hH hC
      clear hC
      refine gq hA rfl rfl (q_move rfl) rfl fun a hA => ?_
      refine gl hA rfl rfl (lo_call fn38 rfl (verify_any (hg.mono0 hH) _ (by first | rfl | assumption | exact sha_length _ | (simp; done) | (rw [List.length_map]; assumption) | (simp [*]; done) | omega) _ _ _ (Own.rd0 hO_t43 hH 0 rfl) (by first | omega | (simp; done) | (simp; omega) | (simp [*]; omega) | (simp at *; omega)) _ _ (by assumption) (Own.rd0 hO_t26 hH 1 rfl) (by first | omega | (simp; done) | (simp; omega) | (simp [*]; omega) | (simp at *; omega)))) rfl ?_
      rintro _ w ⟨rfl, hC⟩ a hA
      replace hH := HS.call0 hH hC
      clear hC
      replace hA := hA.decF (by simp [recT, hs30])
      refine gq hA rfl rfl (q_not rfl) rfl fun a hA => ?_
      refine sq hA (q_pick_t rfl rfl) rfl fun a hA => ?_
      refine sq hA (q_move rfl) rfl fun a hA => ?_
      refine gl hA rfl rfl (lo_call fn27 rfl (awake5_any (hg.mono0 hH))) rfl ?_
      rintro _ w ⟨rfl, hC⟩ a hA
      replace hH := HS.call0 hH hC
      clear hC
      refine sq hA (q_pick_t rfl rfl) rfl fun a hA => ?_
      refine sq hA (q_assign rfl) rfl fun a hA => ?_
      refine wpList_nil ?_
      refine hK10 _ _ ?_
      clear hK10
      replace hA := hA.sub (E' := [(6, _), (10, _), (9, _), (8, _), (7, _), (1, _), (2, _)]) ⟨rfl, rfl, rfl, rfl, rfl, rfl, rfl, trivial⟩
      refine wp_ret ?_
      refine then_ret ?_
      refine post_ret hA (res_1 rfl hA rfl) ?_
      replace hH := hH.pick [] (Hs' := []) rfl
      exact ⟨_, rfl, rfl, hH⟩

theorem otsTells_any {w0 : World} (hg : Gl 2 w0) (s : Bs) (hs : s.length = 32) (n : Int) (u : Value) (l : Bs) (hu : By [] w0 u l) (hl : l.length ≤ 1048576) (v : Value) (sg : List Bs) (hd : Dg sg) (hr : RdD [] w0 v sg) (hm : sg.length ≤ 1048576) (b : Bool) :
    Calls Tryd.prog 12 #[(.agg ((s).map B8).toArray), I n, u, v, (.bool b)] w0 (Ret fun r w' => r = .bool true ∧ HS [] w0 w' []) := by
  have hH := HS.start w0
  refine start (n := 50) (E := [(0, _), (1, _), (2, _), (3, _), (4, _)]) Tryd.func12 rfl rfl rfl (args_look rfl) ?_
  intro a hA
  have hd' : Dg ([] ++ sg) := hd
  have hrl := recT_length n l sg
  refine wp_seq_k fun K1 hK1 => ?_
  refine wp_region_lit ?_
  refine sl hA (lo_boxA hH rfl) rfl ?_
  clear hH; rintro _ w ⟨b_t5, rfl, hH⟩ a hA
  refine sq hA (q_assign rfl) rfl fun a hA => ?_
  refine wpList_nil ?_
  refine hK1 _ _ ?_
  clear hK1
  replace hA := hA.sub (E' := [(10, _), (5, _), (1, _), (2, _), (3, _), (4, _)]) ⟨rfl, rfl, rfl, rfl, rfl, rfl, trivial⟩
  refine wp_seq_k fun K2 hK2 => ?_
  refine wp_seq_k fun K3 hK3 => ?_
  refine wp_region_lit ?_
  refine sq hA (q_move rfl) rfl fun a hA => ?_
  refine sq hA (q_len Tryd.underlying49 rfl (Rd.shp hu)) rfl fun a hA => ?_
  refine sq hA (q_gtrI (n := 500) rfl rfl) rfl fun a hA => ?_
  refine hA.spl (fun hs15 hA => ?_) (fun hs15 hA => ?_)
  · skip
    refine sq hA (q_move rfl) rfl fun a hA => ?_
    refine gs hA rfl rfl rfl rfl fun a hA => ?_
    refine gs hA rfl rfl rfl rfl fun a hA => ?_
    refine gs hA rfl rfl rfl rfl fun a hA => ?_
    refine sq hA (q_pick_t rfl rfl) rfl fun a hA => ?_
    refine wpList_nil ?_
    refine hK3 _ _ ?_
    clear hK3
    replace hA := hA.sub (E' := [(20, _), (10, _), (5, _), (1, _), (2, _), (3, _), (4, _)]) ⟨rfl, rfl, rfl, rfl, rfl, rfl, rfl, trivial⟩
    refine cond_t hA rfl ?_
    refine wp_seq_k fun K4 hK4 => ?_
    refine wp_region_lit ?_
    refine sl hA (lo_call fn27 rfl (awake5_any (hg.mono0 hH))) rfl ?_
    rintro _ w ⟨rfl, hC⟩ a hA
    replace hH := HS.call0 hH hC
    clear hC
    refine sq hA (q_assign rfl) rfl fun a hA => ?_
    refine wpList_nil ?_
    refine hK4 _ _ ?_
    clear hK4
    replace hA := hA.sub (E' := [(10, _), (5, _), (1, _), (2, _), (3, _), (4, _)]) ⟨rfl, rfl, rfl, rfl, rfl, rfl, trivial⟩
    refine wp_ret ?_
    refine then_ret ?_
    refine post_ret hA (res_1 rfl hA rfl) ?_
    replace hH := hH.pick [] (Hs' := []) rfl
    exact ⟨_, rfl, rfl, hH⟩
  · skip
    refine sq hA (q_move rfl) rfl fun a hA => ?_
    refine gq hA rfl rfl (q_move rfl) rfl fun a hA => ?_
    refine gq hA rfl rfl (q_len Tryd.underlying22 rfl (Rd.shp hr)) rfl fun a hA => ?_
    refine gq hA rfl rfl (q_gtrI (n := 600) rfl rfl) rfl fun a hA => ?_
    refine sq hA (q_pick_f rfl rfl) rfl fun a hA => ?_
    refine wpList_nil ?_
    refine hK3 _ _ ?_
    clear hK3
    replace hA := hA.sub (E' := [(20, _), (10, _), (5, _), (1, _), (2, _), (3, _), (4, _)]) ⟨rfl, rfl, rfl, rfl, rfl, rfl, rfl, trivial⟩
    refine cond_d hA rfl (fun hc20 => ?_) (fun hc20 => ?_)
    · skip
      refine wp_seq_k fun K5 hK5 => ?_
      refine wp_region_lit ?_
      refine sl hA (lo_call fn27 rfl (awake5_any (hg.mono0 hH))) rfl ?_
      rintro _ w ⟨rfl, hC⟩ a hA
      replace hH := HS.call0 hH hC
      clear hC
      refine sq hA (q_assign rfl) rfl fun a hA => ?_
      refine wpList_nil ?_
      refine hK5 _ _ ?_
      clear hK5
      replace hA := hA.sub (E' := [(10, _), (5, _), (1, _), (2, _), (3, _), (4, _)]) ⟨rfl, rfl, rfl, rfl, rfl, rfl, trivial⟩
      refine wp_ret ?_
      refine then_ret ?_
      refine post_ret hA (res_1 rfl hA rfl) ?_
      replace hH := hH.pick [] (Hs' := []) rfl
      exact ⟨_, rfl, rfl, hH⟩
    · skip
      refine wp_skip ?_
      refine hK2 _ _ ?_
      clear hK2
      replace hA := hA.sub (E' := [(10, _), (5, _), (1, _), (2, _), (3, _), (4, _)]) ⟨rfl, rfl, rfl, rfl, rfl, rfl, trivial⟩
      refine wp_seq_k fun K6 hK6 => ?_
      refine wp_region_lit ?_
      refine sq hA (q_move rfl) rfl fun a hA => ?_
      refine sq hA (q_move rfl) rfl fun a hA => ?_
      refine sq hA (q_move rfl) rfl fun a hA => ?_
      refine sl hA (lo_call fn36 rfl (refrecover_tot (hg.mono0 hH) _ _ _ (hH.rd hu) (by first | omega | (simp; done) | (simp; omega) | (simp [*]; omega) | (simp at *; omega)) _ _ (by assumption) (hH.rd hr) (by first | omega | (simp; done) | (simp; omega) | (simp [*]; omega) | (simp at *; omega)))) rfl ?_
      rintro _ w ⟨rfl, hC⟩ a hA
      replace hH := HS.call0 hH hC
      clear hC
      refine sq hA (q_move rfl) rfl fun a hA => ?_
      refine sq hA (q_extract rfl rfl) rfl fun a hA => ?_
      refine sq hA (q_extract rfl rfl) rfl fun a hA => ?_
      refine sl hA (lo_allocA hH ti24) rfl ?_
      clear hH; rintro _ w ⟨b_t11, rfl, hH⟩ a hA
      refine s0 hA (lo_storeAm hH ti24 rfl rfl (by first | omega | (simp; done) | (simp; omega) | (rw [List.length_map]; assumption) | assumption | rfl | (simp [*]; done) | (simp [*]; omega)) (by first | omega | (simp; done) | (simp; omega) | (rw [List.length_map]; assumption) | assumption | rfl | (simp [*]; done) | (simp [*]; omega)) (one_B8 _)) ?_
      clear hH; rintro _ w hH
      refine sq hA (q_assign rfl) rfl fun a hA => ?_
      refine wpList_nil ?_
      refine hK6 _ _ ?_
      clear hK6
      replace hA := hA.sub (E' := [(12, _), (11, _), (10, _), (5, _), (1, _), (2, _), (3, _), (4, _)]) ⟨rfl, rfl, rfl, rfl, rfl, rfl, rfl, rfl, trivial⟩
      refine wp_seq_k fun K7 hK7 => ?_
      refine wp_seq_k fun K8 hK8 => ?_
      refine wp_region_lit ?_
      refine sq hA (q_move rfl) rfl fun a hA => ?_
      refine wpList_nil ?_
      refine hK8 _ _ ?_
      clear hK8
      replace hA := hA.sub (E' := [(29, _), (12, _), (11, _), (10, _), (5, _), (1, _), (2, _), (3, _)]) ⟨rfl, rfl, rfl, rfl, rfl, rfl, rfl, rfl, trivial⟩
      refine cond_b hA rfl (fun hc29 => ?_) (fun hc29 => ?_)
      · skip
        refine wp_region_lit ?_
        refine sq hA (q_loadW hH 0 rfl Tryd.underlying24 rfl ti24 rfl (by first | omega | (simp; done) | (simp; omega) | (rw [List.length_map]; assumption) | assumption | rfl | (simp [*]; done) | (simp [*]; omega))) rfl fun a hA => ?_
        replace hH := hH.pick [1, 0] (Hs' := [_, _]) rfl
        refine s0 hA (lo_storeAm hH ti24 rfl rfl (by first | omega | (simp; done) | (simp; omega) | (rw [List.length_map]; assumption) | assumption | rfl | (simp [*]; done) | (simp [*]; omega)) (by first | omega | (simp; done) | (simp; omega) | (rw [List.length_map]; assumption) | assumption | rfl | (simp [*]; done) | (simp [*]; omega)) (one_B8 _)) ?_
        clear hH; rintro _ w hH
        refine wpList_nil ?_
        refine hK7 _ _ ?_
        clear hK7
        replace hA := hA.sub (E' := [(12, _), (11, _), (10, _), (5, _), (1, _), (2, _), (3, _)]) ⟨rfl, rfl, rfl, rfl, rfl, rfl, rfl, trivial⟩
        refine wp_seq_k fun K9 hK9 => ?_
        refine any_go mixed (fun _ => true) hH ?_
        clear hH; intro w hH
        have hS := hH
        change wpK _ _ _ _ _ _ 20 #[false, false, false, false, false, false, false, false, false, false, false, false, false, false, false, false, false, false, false, false] _ _
        refine aq hA 0 rfl (by kernel_rfl) (by intro c a d v w h; cases d <;> exact h) hS (fun w hH => (q_loadW hH 0 rfl Tryd.underlying24 rfl ti24 rfl (by first | omega | (simp; done) | (simp; omega) | (rw [List.length_map]; assumption) | assumption | rfl | (simp [*]; done) | (simp [*]; omega)))) rfl (listed' := #[true, false, false, false, false, false, false, false, false, false, false, false, false, false, false, false, false, false, false, false]) rfl fun a hA => ?_
        refine apq hA 1 rfl (by kernel_rfl) (by intro c a d v w h; cases d <;> exact h) (fun w => (q_move rfl)) rfl (listed' := #[true, true, false, false, false, false, false, false, false, false, false, false, false, false, false, false, false, false, false, false]) rfl fun a hA => ?_
        refine apq hA 2 rfl (by kernel_rfl) (by intro c a d v w h; cases d <;> exact h) (fun w => (q_move rfl)) rfl (listed' := #[true, true, true, false, false, false, false, false, false, false, false, false, false, false, false, false, false, false, false, false]) rfl fun a hA => ?_
        refine apq hA 5 rfl (by kernel_rfl) (by intro c a d v w h; cases d <;> exact h) (fun w => (q_move rfl)) rfl (listed' := #[true, true, true, false, false, true, false, false, false, false, false, false, false, false, false, false, false, false, false, false]) rfl fun a hA => ?_
        refine apq hA 8 rfl (by kernel_rfl) (by intro c a d v w h; cases d <;> exact h) (fun w => (q_move rfl)) rfl (listed' := #[true, true, true, false, false, true, false, false, true, false, false, false, false, false, false, false, false, false, false, false]) rfl fun a hA => ?_
        refine apq hA 9 rfl (by kernel_rfl) (by intro c a d v w h; cases d <;> exact h) (fun w => (q_eqlI (n := 0) rfl rfl)) rfl (listed' := #[true, true, true, false, false, true, false, false, true, true, false, false, false, false, false, false, false, false, false, false]) rfl fun a hA => ?_
        refine hA.spl (fun hs40 hA => ?_) (fun hs40 hA => ?_)
        · skip
          refine a_ch2 (i := 3) (j := 4) (by kernel_rfl) ?_ ?_
          · skip
            refine oneL hA 3 rfl (lo_call fn33 rfl (own5_any _ _ (hH.rd hu) (by first | omega | (simp; done) | (simp; omega) | (simp [*]; omega) | (simp at *; omega)))) rfl (listed' := #[true, true, true, true, false, true, false, false, true, true, false, false, false, false, false, false, false, false, false, false]) rfl ?_
            rintro _ w ⟨v_t34, N_t34, rfl, hO_t34, hC⟩
            replace hH := HS.call0 hH hC
            clear hC
            have hS' := hH.pick [1, 2] (Hs' := [_, _]) rfl
            replace hS := hS'; clear hS'
            refine ⟨fun _ _ => hS, ?_⟩
            intro a hA
            refine al hA 4 rfl (by kernel_rfl) (lo_buildSlice (e := 24) (vs := []) (cs := []) (k := 32) (bb := 0) (z := undef) hH rfl rfl (fun w => by kernel_rfl)) rfl (listed' := #[true, true, true, true, true, true, false, false, true, true, false, false, false, false, false, false, false, false, false, false]) rfl ?_
            clear hH; rintro v_t35 w ⟨N_t35, hO_t35, hH⟩
            replace hO_t35 : OwD 24 v_t35 [] N_t35 := hO_t35
            have hS' := hH.pick [2, 3] (Hs' := [_, _]) rfl
            replace hS := hS'; clear hS'
            refine ⟨fun _ _ => hS, ?_⟩
            intro a hA
            refine al hA 6 rfl (by kernel_rfl) (lo_appD hH Tryd.underlying22 Tryd.underlying22 (.inl rfl) ti24 rfl rfl rfl hO_t35 (hH.rd hr) (by first | omega | (simp; done) | (simp; omega)) (by first | omega | (simp; done) | (simp; omega))) rfl (listed' := #[true, true, true, true, true, true, true, false, true, true, false, false, false, false, false, false, false, false, false, false]) rfl ?_
            clear hH; rintro v_t37 w ⟨N_t37, hO_t37, hH⟩
            have hS' := hH.pick [2, 3] (Hs' := [_, _]) rfl
            replace hS := hS'; clear hS'
            refine ⟨fun _ _ => hS, ?_⟩
            intro a hA
            refine al hA 7 rfl (by kernel_rfl) (lo_call fn38 rfl (verify_any (hg.mono0 hH) _ (by first | rfl | assumption | exact sha_length _ | (simp; done) | (rw [List.length_map]; assumption) | (simp [*]; done) | omega) _ _ _ (Own.rd0 hO_t34 hH 1 rfl) (by first | omega | (simp; done) | (simp; omega) | (simp [*]; omega) | (simp at *; omega)) _ _ (by assumption) (Own.rd0 hO_t37 hH 0 rfl) (by first | omega | (simp; done) | (simp; omega) | (simp [*]; omega) | (simp at *; omega)))) rfl (listed' := #[true, true, true, true, true, true, true, true, true, true, false, false, false, false, false, false, false, false, false, false]) rfl ?_
            rintro _ w ⟨rfl, hC⟩
            replace hH := HS.call0 hH hC
            clear hC
            have hS' := hH.pick [2, 3] (Hs' := [_, _]) rfl
            replace hS := hS'; clear hS'
            refine ⟨fun _ _ => hS, ?_⟩
            intro a hA
            refine apq hA 10 rfl (by kernel_rfl) (by intro c a d v w h; cases d <;> exact h) (fun w => (q_move rfl)) rfl (listed' := #[true, true, true, true, true, true, true, true, true, true, true, false, false, false, false, false, false, false, false, false]) rfl fun a hA => ?_
            refine agq hA 11 rfl (by kernel_rfl) rfl rfl (by intro c a d v w h; cases d <;> exact h) hS (fun w hH => (q_loadW hH 1 rfl Tryd.underlying24 rfl ti24 rfl (by first | omega | (simp; done) | (simp; omega) | (rw [List.length_map]; assumption) | assumption | rfl | (simp [*]; done) | (simp [*]; omega)))) rfl (listed' := #[true, true, true, true, true, true, true, true, true, true, true, true, false, false, false, false, false, false, false, false]) rfl fun a hA => ?_
            refine agq hA 12 rfl (by kernel_rfl) rfl rfl (by intro c a d v w h; cases d <;> exact h) hS (fun w hH => (q_loadW hH 0 rfl Tryd.underlying24 rfl ti24 rfl (by first | omega | (simp; done) | (simp; omega) | (rw [List.length_map]; assumption) | assumption | rfl | (simp [*]; done) | (simp [*]; omega)))) rfl (listed' := #[true, true, true, true, true, true, true, true, true, true, true, true, true, false, false, false, false, false, false, false]) rfl fun a hA => ?_
            refine apgq hA 13 rfl (by kernel_rfl) rfl rfl (by intro c a d v w h; cases d <;> exact h) (fun w => (q_eqlA8 eqa24 rfl rfl rfl rfl (by first | rfl | assumption | exact sha_length _ | (simp; done) | (rw [List.length_map]; assumption) | (simp [*]; done) | omega) (by first | rfl | assumption | exact sha_length _ | (simp; done) | (rw [List.length_map]; assumption) | (simp [*]; done) | omega))) rfl (listed' := #[true, true, true, true, true, true, true, true, true, true, true, true, true, true, false, false, false, false, false, false]) rfl fun a hA => ?_
            refine apq hA 14 rfl (by kernel_rfl) (by intro c a d v w h; cases d <;> exact h) (fun w => (q_pick_t rfl rfl)) rfl (listed' := #[true, true, true, true, true, true, true, true, true, true, true, true, true, true, true, false, false, false, false, false]) rfl fun a hA => ?_
            refine apq hA 15 rfl (by kernel_rfl) (by intro c a d v w h; cases d <;> exact h) (fun w => (q_eqlB Tryd.underlying4 rfl rfl)) rfl (listed' := #[true, true, true, true, true, true, true, true, true, true, true, true, true, true, true, true, false, false, false, false]) rfl fun a hA => ?_
            replace hA := hA.decT (by first | (have e0 : (recT n l sg).2 = 0 := (by omega)); simp [e0]; done | (have e0 : ¬ (recT n l sg).2 = 0 := (by omega)); simp [e0]; done)
            refine apq hA 16 rfl (by kernel_rfl) (by intro c a d v w h; cases d <;> exact h) (fun w => (q_move rfl)) rfl (listed' := #[true, true, true, true, true, true, true, true, true, true, true, true, true, true, true, true, true, false, false, false]) rfl fun a hA => ?_
            refine agl hA 17 rfl (by kernel_rfl) rfl rfl (lo_call fn27 rfl (awake5_any (hg.mono0 hH))) rfl (listed' := #[true, true, true, true, true, true, true, true, true, true, true, true, true, true, true, true, true, true, false, false]) rfl ?_
            rintro _ w ⟨rfl, hC⟩
            replace hH := HS.call0 hH hC
            clear hC
            have hS' := hH.pick [2, 3] (Hs' := [_, _]) rfl
            replace hS := hS'; clear hS'
            refine ⟨fun _ _ => hS, ?_⟩
            intro a hA
            refine apq hA 18 rfl (by kernel_rfl) (by intro c a d v w h; cases d <;> exact h) (fun w => (q_pick_t rfl rfl)) rfl (listed' := #[true, true, true, true, true, true, true, true, true, true, true, true, true, true, true, true, true, true, true, false]) rfl fun a hA => ?_
            refine apq hA 19 rfl (by kernel_rfl) (by intro c a d v w h; cases d <;> exact h) (fun w => (q_assign rfl)) rfl (listed' := #[true, true, true, true, true, true, true, true, true, true, true, true, true, true, true, true, true, true, true, true]) rfl fun a hA => ?_
            refine a_end (by kernel_rfl) ?_ _
            refine hK9 _ _ ?_
            clear hK9
            replace hA := hA.sub (E' := [(10, _)]) ⟨rfl, trivial⟩
            refine wp_ret ?_
            refine post_ret hA (res_1 rfl hA rfl) ?_
            replace hH := hH.pick [] (Hs' := []) rfl
            exact ⟨_, rfl, rfl, hH⟩
          · skip
            refine oneL hA 4 rfl (lo_buildSlice (e := 24) (vs := []) (cs := []) (k := 32) (bb := 0) (z := undef) hH rfl rfl (fun w => by kernel_rfl)) rfl (listed' := #[true, true, true, false, true, true, false, false, true, true, false, false, false, false, false, false, false, false, false, false]) rfl ?_
            clear hH; rintro v_t35 w ⟨N_t35, hO_t35, hH⟩
            replace hO_t35 : OwD 24 v_t35 [] N_t35 := hO_t35
            have hS' := hH.pick [1, 2] (Hs' := [_, _]) rfl
            replace hS := hS'; clear hS'
            refine ⟨fun _ _ => hS, ?_⟩
            intro a hA
            refine al hA 3 rfl (by kernel_rfl) (lo_call fn33 rfl (own5_any _ _ (hH.rd hu) (by first | omega | (simp; done) | (simp; omega) | (simp [*]; omega) | (simp at *; omega)))) rfl (listed' := #[true, true, true, true, true, true, false, false, true, true, false, false, false, false, false, false, false, false, false, false]) rfl ?_
            rintro _ w ⟨v_t34, N_t34, rfl, hO_t34, hC⟩
            replace hH := HS.call0 hH hC
            clear hC
            have hS' := hH.pick [2, 3] (Hs' := [_, _]) rfl
            replace hS := hS'; clear hS'
            refine ⟨fun _ _ => hS, ?_⟩
            intro a hA
            replace hH := hH.pick [1, 0, 2, 3] (Hs' := [_, _, _, _]) rfl
            refine al hA 6 rfl (by kernel_rfl) (lo_appD hH Tryd.underlying22 Tryd.underlying22 (.inl rfl) ti24 rfl rfl rfl hO_t35 (hH.rd hr) (by first | omega | (simp; done) | (simp; omega)) (by first | omega | (simp; done) | (simp; omega))) rfl (listed' := #[true, true, true, true, true, true, true, false, true, true, false, false, false, false, false, false, false, false, false, false]) rfl ?_
            clear hH; rintro v_t37 w ⟨N_t37, hO_t37, hH⟩
            have hS' := hH.pick [2, 3] (Hs' := [_, _]) rfl
            replace hS := hS'; clear hS'
            refine ⟨fun _ _ => hS, ?_⟩
            intro a hA
            refine al hA 7 rfl (by kernel_rfl) (lo_call fn38 rfl (verify_any (hg.mono0 hH) _ (by first | rfl | assumption | exact sha_length _ | (simp; done) | (rw [List.length_map]; assumption) | (simp [*]; done) | omega) _ _ _ (Own.rd0 hO_t34 hH 1 rfl) (by first | omega | (simp; done) | (simp; omega) | (simp [*]; omega) | (simp at *; omega)) _ _ (by assumption) (Own.rd0 hO_t37 hH 0 rfl) (by first | omega | (simp; done) | (simp; omega) | (simp [*]; omega) | (simp at *; omega)))) rfl (listed' := #[true, true, true, true, true, true, true, true, true, true, false, false, false, false, false, false, false, false, false, false]) rfl ?_
            rintro _ w ⟨rfl, hC⟩
            replace hH := HS.call0 hH hC
            clear hC
            have hS' := hH.pick [2, 3] (Hs' := [_, _]) rfl
            replace hS := hS'; clear hS'
            refine ⟨fun _ _ => hS, ?_⟩
            intro a hA
            refine apq hA 10 rfl (by kernel_rfl) (by intro c a d v w h; cases d <;> exact h) (fun w => (q_move rfl)) rfl (listed' := #[true, true, true, true, true, true, true, true, true, true, true, false, false, false, false, false, false, false, false, false]) rfl fun a hA => ?_
            refine agq hA 11 rfl (by kernel_rfl) rfl rfl (by intro c a d v w h; cases d <;> exact h) hS (fun w hH => (q_loadW hH 1 rfl Tryd.underlying24 rfl ti24 rfl (by first | omega | (simp; done) | (simp; omega) | (rw [List.length_map]; assumption) | assumption | rfl | (simp [*]; done) | (simp [*]; omega)))) rfl (listed' := #[true, true, true, true, true, true, true, true, true, true, true, true, false, false, false, false, false, false, false, false]) rfl fun a hA => ?_
            refine agq hA 12 rfl (by kernel_rfl) rfl rfl (by intro c a d v w h; cases d <;> exact h) hS (fun w hH => (q_loadW hH 0 rfl Tryd.underlying24 rfl ti24 rfl (by first | omega | (simp; done) | (simp; omega) | (rw [List.length_map]; assumption) | assumption | rfl | (simp [*]; done) | (simp [*]; omega)))) rfl (listed' := #[true, true, true, true, true, true, true, true, true, true, true, true, true, false, false, false, false, false, false, false]) rfl fun a hA => ?_
            refine apgq hA 13 rfl (by kernel_rfl) rfl rfl (by intro c a d v w h; cases d <;> exact h) (fun w => (q_eqlA8 eqa24 rfl rfl rfl rfl (by first | rfl | assumption | exact sha_length _ | (simp; done) | (rw [List.length_map]; assumption) | (simp [*]; done) | omega) (by first | rfl | assumption | exact sha_length _ | (simp; done) | (rw [List.length_map]; assumption) | (simp [*]; done) | omega))) rfl (listed' := #[true, true, true, true, true, true, true, true, true, true, true, true, true, true, false, false, false, false, false, false]) rfl fun a hA => ?_
            refine apq hA 14 rfl (by kernel_rfl) (by intro c a d v w h; cases d <;> exact h) (fun w => (q_pick_t rfl rfl)) rfl (listed' := #[true, true, true, true, true, true, true, true, true, true, true, true, true, true, true, false, false, false, false, false]) rfl fun a hA => ?_
            refine apq hA 15 rfl (by kernel_rfl) (by intro c a d v w h; cases d <;> exact h) (fun w => (q_eqlB Tryd.underlying4 rfl rfl)) rfl (listed' := #[true, true, true, true, true, true, true, true, true, true, true, true, true, true, true, true, false, false, false, false]) rfl fun a hA => ?_
            replace hA := hA.decT (by first | (have e0 : (recT n l sg).2 = 0 := (by omega)); simp [e0]; done | (have e0 : ¬ (recT n l sg).2 = 0 := (by omega)); simp [e0]; done)
            refine apq hA 16 rfl (by kernel_rfl) (by intro c a d v w h; cases d <;> exact h) (fun w => (q_move rfl)) rfl (listed' := #[true, true, true, true, true, true, true, true, true, true, true, true, true, true, true, true, true, false, false, false]) rfl fun a hA => ?_
            refine agl hA 17 rfl (by kernel_rfl) rfl rfl (lo_call fn27 rfl (awake5_any (hg.mono0 hH))) rfl (listed' := #[true, true, true, true, true, true, true, true, true, true, true, true, true, true, true, true, true, true, false, false]) rfl ?_
            rintro _ w ⟨rfl, hC⟩
            replace hH := HS.call0 hH hC
            clear hC
            have hS' := hH.pick [2, 3] (Hs' := [_, _]) rfl
            replace hS := hS'; clear hS'
            refine ⟨fun _ _ => hS, ?_⟩
            intro a hA
            refine apq hA 18 rfl (by kernel_rfl) (by intro c a d v w h; cases d <;> exact h) (fun w => (q_pick_t rfl rfl)) rfl (listed' := #[true, true, true, true, true, true, true, true, true, true, true, true, true, true, true, true, true, true, true, false]) rfl fun a hA => ?_
            refine apq hA 19 rfl (by kernel_rfl) (by intro c a d v w h; cases d <;> exact h) (fun w => (q_assign rfl)) rfl (listed' := #[true, true, true, true, true, true, true, true, true, true, true, true, true, true, true, true, true, true, true, true]) rfl fun a hA => ?_
            refine a_end (by kernel_rfl) ?_ _
            refine hK9 _ _ ?_
            clear hK9
            replace hA := hA.sub (E' := [(10, _)]) ⟨rfl, trivial⟩
            refine wp_ret ?_
            refine post_ret hA (res_1 rfl hA rfl) ?_
            replace hH := hH.pick [] (Hs' := []) rfl
            exact ⟨_, rfl, rfl, hH⟩
        · skip
          refine a_ch2 (i := 3) (j := 4) (by kernel_rfl) ?_ ?_
          · skip
            refine oneL hA 3 rfl (lo_call fn33 rfl (own5_any _ _ (hH.rd hu) (by first | omega | (simp; done) | (simp; omega) | (simp [*]; omega) | (simp at *; omega)))) rfl (listed' := #[true, true, true, true, false, true, false, false, true, true, false, false, false, false, false, false, false, false, false, false]) rfl ?_
            rintro _ w ⟨v_t34, N_t34, rfl, hO_t34, hC⟩
            replace hH := HS.call0 hH hC
            clear hC
            have hS' := hH.pick [1, 2] (Hs' := [_, _]) rfl
            replace hS := hS'; clear hS'
            refine ⟨fun _ _ => hS, ?_⟩
            intro a hA
            refine al hA 4 rfl (by kernel_rfl) (lo_buildSlice (e := 24) (vs := []) (cs := []) (k := 32) (bb := 0) (z := undef) hH rfl rfl (fun w => by kernel_rfl)) rfl (listed' := #[true, true, true, true, true, true, false, false, true, true, false, false, false, false, false, false, false, false, false, false]) rfl ?_
            clear hH; rintro v_t35 w ⟨N_t35, hO_t35, hH⟩
            replace hO_t35 : OwD 24 v_t35 [] N_t35 := hO_t35
            have hS' := hH.pick [2, 3] (Hs' := [_, _]) rfl
            replace hS := hS'; clear hS'
            refine ⟨fun _ _ => hS, ?_⟩
            intro a hA
            refine al hA 6 rfl (by kernel_rfl) (lo_appD hH Tryd.underlying22 Tryd.underlying22 (.inl rfl) ti24 rfl rfl rfl hO_t35 (hH.rd hr) (by first | omega | (simp; done) | (simp; omega)) (by first | omega | (simp; done) | (simp; omega))) rfl (listed' := #[true, true, true, true, true, true, true, false, true, true, false, false, false, false, false, false, false, false, false, false]) rfl ?_
            clear hH; rintro v_t37 w ⟨N_t37, hO_t37, hH⟩
            have hS' := hH.pick [2, 3] (Hs' := [_, _]) rfl
            replace hS := hS'; clear hS'
            refine ⟨fun _ _ => hS, ?_⟩
            intro a hA
            refine al hA 7 rfl (by kernel_rfl) (lo_call fn38 rfl (verify_any (hg.mono0 hH) _ (by first | rfl | assumption | exact sha_length _ | (simp; done) | (rw [List.length_map]; assumption) | (simp [*]; done) | omega) _ _ _ (Own.rd0 hO_t34 hH 1 rfl) (by first | omega | (simp; done) | (simp; omega) | (simp [*]; omega) | (simp at *; omega)) _ _ (by assumption) (Own.rd0 hO_t37 hH 0 rfl) (by first | omega | (simp; done) | (simp; omega) | (simp [*]; omega) | (simp at *; omega)))) rfl (listed' := #[true, true, true, true, true, true, true, true, true, true, false, false, false, false, false, false, false, false, false, false]) rfl ?_
            rintro _ w ⟨rfl, hC⟩
            replace hH := HS.call0 hH hC
            clear hC
            have hS' := hH.pick [2, 3] (Hs' := [_, _]) rfl
            replace hS := hS'; clear hS'
            refine ⟨fun _ _ => hS, ?_⟩
            intro a hA
            refine apq hA 10 rfl (by kernel_rfl) (by intro c a d v w h; cases d <;> exact h) (fun w => (q_move rfl)) rfl (listed' := #[true, true, true, true, true, true, true, true, true, true, true, false, false, false, false, false, false, false, false, false]) rfl fun a hA => ?_
            refine apgs hA 11 rfl (by kernel_rfl) rfl rfl rfl (by intro c a d v w h; cases d <;> exact h) rfl (listed' := #[true, true, true, true, true, true, true, true, true, true, true, true, false, false, false, false, false, false, false, false]) rfl fun a hA => ?_
            refine apgs hA 12 rfl (by kernel_rfl) rfl rfl rfl (by intro c a d v w h; cases d <;> exact h) rfl (listed' := #[true, true, true, true, true, true, true, true, true, true, true, true, true, false, false, false, false, false, false, false]) rfl fun a hA => ?_
            refine apgs hA 13 rfl (by kernel_rfl) rfl rfl rfl (by intro c a d v w h; cases d <;> exact h) rfl (listed' := #[true, true, true, true, true, true, true, true, true, true, true, true, true, true, false, false, false, false, false, false]) rfl fun a hA => ?_
            refine apq hA 14 rfl (by kernel_rfl) (by intro c a d v w h; cases d <;> exact h) (fun w => (q_pick_f rfl rfl)) rfl (listed' := #[true, true, true, true, true, true, true, true, true, true, true, true, true, true, true, false, false, false, false, false]) rfl fun a hA => ?_
            refine apq hA 15 rfl (by kernel_rfl) (by intro c a d v w h; cases d <;> exact h) (fun w => (q_eqlB Tryd.underlying4 rfl rfl)) rfl (listed' := #[true, true, true, true, true, true, true, true, true, true, true, true, true, true, true, true, false, false, false, false]) rfl fun a hA => ?_
            replace hA := hA.decT (by first | (have e0 : (recT n l sg).2 = 0 := (by omega)); simp [e0]; done | (have e0 : ¬ (recT n l sg).2 = 0 := (by omega)); simp [e0]; done)
            refine apq hA 16 rfl (by kernel_rfl) (by intro c a d v w h; cases d <;> exact h) (fun w => (q_move rfl)) rfl (listed' := #[true, true, true, true, true, true, true, true, true, true, true, true, true, true, true, true, true, false, false, false]) rfl fun a hA => ?_
            refine agl hA 17 rfl (by kernel_rfl) rfl rfl (lo_call fn27 rfl (awake5_any (hg.mono0 hH))) rfl (listed' := #[true, true, true, true, true, true, true, true, true, true, true, true, true, true, true, true, true, true, false, false]) rfl ?_
            rintro _ w ⟨rfl, hC⟩
            replace hH := HS.call0 hH hC
            clear hC
            have hS' := hH.pick [2, 3] (Hs' := [_, _]) rfl
            replace hS := hS'; clear hS'
            refine ⟨fun _ _ => hS, ?_⟩
            intro a hA
            refine apq hA 18 rfl (by kernel_rfl) (by intro c a d v w h; cases d <;> exact h) (fun w => (q_pick_t rfl rfl)) rfl (listed' := #[true, true, true, true, true, true, true, true, true, true, true, true, true, true, true, true, true, true, true, false]) rfl fun a hA => ?_
            refine apq hA 19 rfl (by kernel_rfl) (by intro c a d v w h; cases d <;> exact h) (fun w => (q_assign rfl)) rfl (listed' := #[true, true, true, true, true, true, true, true, true, true, true, true, true, true, true, true, true, true, true, true]) rfl fun a hA => ?_
            refine a_end (by kernel_rfl) ?_ _
            refine hK9 _ _ ?_
            clear hK9
            replace hA := hA.sub (E' := [(10, _)]) ⟨rfl, trivial⟩
            refine wp_ret ?_
            refine post_ret hA (res_1 rfl hA rfl) ?_
            replace hH := hH.pick [] (Hs' := []) rfl
            exact ⟨_, rfl, rfl, hH⟩
          · skip
            refine oneL hA 4 rfl (lo_buildSlice (e := 24) (vs := []) (cs := []) (k := 32) (bb := 0) (z := undef) hH rfl rfl (fun w => by kernel_rfl)) rfl (listed' := #[true, true, true, false, true, true, false, false, true, true, false, false, false, false, false, false, false, false, false, false]) rfl ?_
            clear hH; rintro v_t35 w ⟨N_t35, hO_t35, hH⟩
            replace hO_t35 : OwD 24 v_t35 [] N_t35 := hO_t35
            have hS' := hH.pick [1, 2] (Hs' := [_, _]) rfl
            replace hS := hS'; clear hS'
            refine ⟨fun _ _ => hS, ?_⟩
            intro a hA
            refine al hA 3 rfl (by kernel_rfl) (lo_call fn33 rfl (own5_any _ _ (hH.rd hu) (by first | omega | (simp; done) | (simp; omega) | (simp [*]; omega) | (simp at *; omega)))) rfl (listed' := #[true, true, true, true, true, true, false, false, true, true, false, false, false, false, false, false, false, false, false, false]) rfl ?_
            rintro _ w ⟨v_t34, N_t34, rfl, hO_t34, hC⟩
            replace hH := HS.call0 hH hC
            clear hC
            have hS' := hH.pick [2, 3] (Hs' := [_, _]) rfl
            replace hS := hS'; clear hS'
            refine ⟨fun _ _ => hS, ?_⟩
            intro a hA
            replace hH := hH.pick [1, 0, 2, 3] (Hs' := [_, _, _, _]) rfl
            refine al hA 6 rfl (by kernel_rfl) (lo_appD hH Tryd.underlying22 Tryd.underlying22 (.inl rfl) ti24 rfl rfl rfl hO_t35 (hH.rd hr) (by first | omega | (simp; done) | (simp; omega)) (by first | omega | (simp; done) | (simp; omega))) rfl (listed' := #[true, true, true, true, true, true, true, false, true, true, false, false, false, false, false, false, false, false, false, false]) rfl ?_
            clear hH; rintro v_t37 w ⟨N_t37, hO_t37, hH⟩
            have hS' := hH.pick [2, 3] (Hs' := [_, _]) rfl
            replace hS := hS'; clear hS'
            refine ⟨fun _ _ => hS, ?_⟩
            intro a hA
            refine al hA 7 rfl (by kernel_rfl) (lo_call fn38 rfl (verify_any (hg.mono0 hH) _ (by first | rfl | assumption | exact sha_length _ | (simp; done) | (rw [List.length_map]; assumption) | (simp [*]; done) | omega) _ _ _ (Own.rd0 hO_t34 hH 1 rfl) (by first | omega | (simp; done) | (simp; omega) | (simp [*]; omega) | (simp at *; omega)) _ _ (by assumption) (Own.rd0 hO_t37 hH 0 rfl) (by first | omega | (simp; done) | (simp; omega) | (simp [*]; omega) | (simp at *; omega)))) rfl (listed' := #[true, true, true, true, true, true, true, true, true, true, false, false, false, false, false, false, false, false, false, false]) rfl ?_
            rintro _ w ⟨rfl, hC⟩
            replace hH := HS.call0 hH hC
            clear hC
            have hS' := hH.pick [2, 3] (Hs' := [_, _]) rfl
            replace hS := hS'; clear hS'
            refine ⟨fun _ _ => hS, ?_⟩
            intro a hA
            refine apq hA 10 rfl (by kernel_rfl) (by intro c a d v w h; cases d <;> exact h) (fun w => (q_move rfl)) rfl (listed' := #[true, true, true, true, true, true, true, true, true, true, true, false, false, false, false, false, false, false, false, false]) rfl fun a hA => ?_
            refine apgs hA 11 rfl (by kernel_rfl) rfl rfl rfl (by intro c a d v w h; cases d <;> exact h) rfl (listed' := #[true, true, true, true, true, true, true, true, true, true, true, true, false, false, false, false, false, false, false, false]) rfl fun a hA => ?_
            refine apgs hA 12 rfl (by kernel_rfl) rfl rfl rfl (by intro c a d v w h; cases d <;> exact h) rfl (listed' := #[true, true, true, true, true, true, true, true, true, true, true, true, true, false, false, false, false, false, false, false]) rfl fun a hA => ?_
            refine apgs hA 13 rfl (by kernel_rfl) rfl rfl rfl (by intro c a d v w h; cases d <;> exact h) rfl (listed' := #[true, true, true, true, true, true, true, true, true, true, true, true, true, true, false, false, false, false, false, false]) rfl fun a hA => ?_
            refine apq hA 14 rfl (by kernel_rfl) (by intro c a d v w h; cases d <;> exact h) (fun w => (q_pick_f rfl rfl)) rfl (listed' := #[true, true, true, true, true, true, true, true, true, true, true, true, true, true, true, false, false, false, false, false]) rfl fun a hA => ?_
            refine apq hA 15 rfl (by kernel_rfl) (by intro c a d v w h; cases d <;> exact h) (fun w => (q_eqlB Tryd.underlying4 rfl rfl)) rfl (listed' := #[true, true, true, true, true, true, true, true, true, true, true, true, true, true, true, true, false, false, false, false]) rfl fun a hA => ?_
            replace hA := hA.decT (by first | (have e0 : (recT n l sg).2 = 0 := (by omega)); simp [e0]; done | (have e0 : ¬ (recT n l sg).2 = 0 := (by omega)); simp [e0]; done)
            refine apq hA 16 rfl (by kernel_rfl) (by intro c a d v w h; cases d <;> exact h) (fun w => (q_move rfl)) rfl (listed' := #[true, true, true, true, true, true, true, true, true, true, true, true, true, true, true, true, true, false, false, false]) rfl fun a hA => ?_
            refine agl hA 17 rfl (by kernel_rfl) rfl rfl (lo_call fn27 rfl (awake5_any (hg.mono0 hH))) rfl (listed' := #[true, true, true, true, true, true, true, true, true, true, true, true, true, true, true, true, true, true, false, false]) rfl ?_
            rintro _ w ⟨rfl, hC⟩
            replace hH := HS.call0 hH hC
            clear hC
            have hS' := hH.pick [2, 3] (Hs' := [_, _]) rfl
            replace hS := hS'; clear hS'
            refine ⟨fun _ _ => hS, ?_⟩
            intro a hA
            refine apq hA 18 rfl (by kernel_rfl) (by intro c a d v w h; cases d <;> exact h) (fun w => (q_pick_t rfl rfl)) rfl (listed' := #[true, true, true, true, true, true, true, true, true, true, true, true, true, true, true, true, true, true, true, false]) rfl fun a hA => ?_
            refine apq hA 19 rfl (by kernel_rfl) (by intro c a d v w h; cases d <;> exact h) (fun w => (q_assign rfl)) rfl (listed' := #[true, true, true, true, true, true, true, true, true, true, true, true, true, true, true, true, true, true, true, true]) rfl fun a hA => ?_
            refine a_end (by kernel_rfl) ?_ _
            refine hK9 _ _ ?_
            clear hK9
            replace hA := hA.sub (E' := [(10, _)]) ⟨rfl, trivial⟩
            refine wp_ret ?_
            refine post_ret hA (res_1 rfl hA rfl) ?_
            replace hH := hH.pick [] (Hs' := []) rfl
            exact ⟨_, rfl, rfl, hH⟩
      · skip
        refine wp_skip ?_
        refine hK7 _ _ ?_
        clear hK7
        replace hA := hA.sub (E' := [(12, _), (11, _), (10, _), (5, _), (1, _), (2, _), (3, _)]) ⟨rfl, rfl, rfl, rfl, rfl, rfl, rfl, trivial⟩
        refine wp_seq_k fun K10 hK10 => ?_
        refine any_go mixed (fun _ => true) hH ?_
        clear hH; intro w hH
        have hS := hH
        change wpK _ _ _ _ _ _ 20 #[false, false, false, false, false, false, false, false, false, false, false, false, false, false, false, false, false, false, false, false] _ _
        refine aq hA 0 rfl (by kernel_rfl) (by intro c a d v w h; cases d <;> exact h) hS (fun w hH => (q_loadW hH 1 rfl Tryd.underlying24 rfl ti24 rfl (by first | omega | (simp; done) | (simp; omega) | (rw [List.length_map]; assumption) | assumption | rfl | (simp [*]; done) | (simp [*]; omega)))) rfl (listed' := #[true, false, false, false, false, false, false, false, false, false, false, false, false, false, false, false, false, false, false, false]) rfl fun a hA => ?_
        refine apq hA 1 rfl (by kernel_rfl) (by intro c a d v w h; cases d <;> exact h) (fun w => (q_move rfl)) rfl (listed' := #[true, true, false, false, false, false, false, false, false, false, false, false, false, false, false, false, false, false, false, false]) rfl fun a hA => ?_
        refine apq hA 2 rfl (by kernel_rfl) (by intro c a d v w h; cases d <;> exact h) (fun w => (q_move rfl)) rfl (listed' := #[true, true, true, false, false, false, false, false, false, false, false, false, false, false, false, false, false, false, false, false]) rfl fun a hA => ?_
        refine apq hA 5 rfl (by kernel_rfl) (by intro c a d v w h; cases d <;> exact h) (fun w => (q_move rfl)) rfl (listed' := #[true, true, true, false, false, true, false, false, false, false, false, false, false, false, false, false, false, false, false, false]) rfl fun a hA => ?_
        refine apq hA 8 rfl (by kernel_rfl) (by intro c a d v w h; cases d <;> exact h) (fun w => (q_move rfl)) rfl (listed' := #[true, true, true, false, false, true, false, false, true, false, false, false, false, false, false, false, false, false, false, false]) rfl fun a hA => ?_
        refine apq hA 9 rfl (by kernel_rfl) (by intro c a d v w h; cases d <;> exact h) (fun w => (q_eqlI (n := 0) rfl rfl)) rfl (listed' := #[true, true, true, false, false, true, false, false, true, true, false, false, false, false, false, false, false, false, false, false]) rfl fun a hA => ?_
        refine hA.spl (fun hs40 hA => ?_) (fun hs40 hA => ?_)
        · skip
          refine a_ch2 (i := 3) (j := 4) (by kernel_rfl) ?_ ?_
          · skip
            refine oneL hA 3 rfl (lo_call fn33 rfl (own5_any _ _ (hH.rd hu) (by first | omega | (simp; done) | (simp; omega) | (simp [*]; omega) | (simp at *; omega)))) rfl (listed' := #[true, true, true, true, false, true, false, false, true, true, false, false, false, false, false, false, false, false, false, false]) rfl ?_
            rintro _ w ⟨v_t34, N_t34, rfl, hO_t34, hC⟩
            replace hH := HS.call0 hH hC
            clear hC
            have hS' := hH.pick [1, 2] (Hs' := [_, _]) rfl
            replace hS := hS'; clear hS'
            refine ⟨fun _ _ => hS, ?_⟩
            intro a hA
            refine al hA 4 rfl (by kernel_rfl) (lo_buildSlice (e := 24) (vs := []) (cs := []) (k := 32) (bb := 0) (z := undef) hH rfl rfl (fun w => by kernel_rfl)) rfl (listed' := #[true, true, true, true, true, true, false, false, true, true, false, false, false, false, false, false, false, false, false, false]) rfl ?_
            clear hH; rintro v_t35 w ⟨N_t35, hO_t35, hH⟩
            replace hO_t35 : OwD 24 v_t35 [] N_t35 := hO_t35
            have hS' := hH.pick [2, 3] (Hs' := [_, _]) rfl
            replace hS := hS'; clear hS'
            refine ⟨fun _ _ => hS, ?_⟩
            intro a hA
            refine al hA 6 rfl (by kernel_rfl) (lo_appD hH Tryd.underlying22 Tryd.underlying22 (.inl rfl) ti24 rfl rfl rfl hO_t35 (hH.rd hr) (by first | omega | (simp; done) | (simp; omega)) (by first | omega | (simp; done) | (simp; omega))) rfl (listed' := #[true, true, true, true, true, true, true, false, true, true, false, false, false, false, false, false, false, false, false, false]) rfl ?_
            clear hH; rintro v_t37 w ⟨N_t37, hO_t37, hH⟩
            have hS' := hH.pick [2, 3] (Hs' := [_, _]) rfl
            replace hS := hS'; clear hS'
            refine ⟨fun _ _ => hS, ?_⟩
            intro a hA
            refine al hA 7 rfl (by kernel_rfl) (lo_call fn38 rfl (verify_any (hg.mono0 hH) _ (by first | rfl | assumption | exact sha_length _ | (simp; done) | (rw [List.length_map]; assumption) | (simp [*]; done) | omega) _ _ _ (Own.rd0 hO_t34 hH 1 rfl) (by first | omega | (simp; done) | (simp; omega) | (simp [*]; omega) | (simp at *; omega)) _ _ (by assumption) (Own.rd0 hO_t37 hH 0 rfl) (by first | omega | (simp; done) | (simp; omega) | (simp [*]; omega) | (simp at *; omega)))) rfl (listed' := #[true, true, true, true, true, true, true, true, true, true, false, false, false, false, false, false, false, false, false, false]) rfl ?_
            rintro _ w ⟨rfl, hC⟩
            replace hH := HS.call0 hH hC
            clear hC
            have hS' := hH.pick [2, 3] (Hs' := [_, _]) rfl
            replace hS := hS'; clear hS'
            refine ⟨fun _ _ => hS, ?_⟩
            intro a hA
            refine apq hA 10 rfl (by kernel_rfl) (by intro c a d v w h; cases d <;> exact h) (fun w => (q_move rfl)) rfl (listed' := #[true, true, true, true, true, true, true, true, true, true, true, false, false, false, false, false, false, false, false, false]) rfl fun a hA => ?_
            refine agq hA 11 rfl (by kernel_rfl) rfl rfl (by intro c a d v w h; cases d <;> exact h) hS (fun w hH => (q_loadW hH 0 rfl Tryd.underlying24 rfl ti24 rfl (by first | omega | (simp; done) | (simp; omega) | (rw [List.length_map]; assumption) | assumption | rfl | (simp [*]; done) | (simp [*]; omega)))) rfl (listed' := #[true, true, true, true, true, true, true, true, true, true, true, true, false, false, false, false, false, false, false, false]) rfl fun a hA => ?_
            refine agq hA 12 rfl (by kernel_rfl) rfl rfl (by intro c a d v w h; cases d <;> exact h) hS (fun w hH => (q_loadW hH 1 rfl Tryd.underlying24 rfl ti24 rfl (by first | omega | (simp; done) | (simp; omega) | (rw [List.length_map]; assumption) | assumption | rfl | (simp [*]; done) | (simp [*]; omega)))) rfl (listed' := #[true, true, true, true, true, true, true, true, true, true, true, true, true, false, false, false, false, false, false, false]) rfl fun a hA => ?_
            refine apgq hA 13 rfl (by kernel_rfl) rfl rfl (by intro c a d v w h; cases d <;> exact h) (fun w => (q_eqlA8 eqa24 rfl rfl rfl rfl (by first | rfl | assumption | exact sha_length _ | (simp; done) | (rw [List.length_map]; assumption) | (simp [*]; done) | omega) (by first | rfl | assumption | exact sha_length _ | (simp; done) | (rw [List.length_map]; assumption) | (simp [*]; done) | omega))) rfl (listed' := #[true, true, true, true, true, true, true, true, true, true, true, true, true, true, false, false, false, false, false, false]) rfl fun a hA => ?_
            refine apq hA 14 rfl (by kernel_rfl) (by intro c a d v w h; cases d <;> exact h) (fun w => (q_pick_t rfl rfl)) rfl (listed' := #[true, true, true, true, true, true, true, true, true, true, true, true, true, true, true, false, false, false, false, false]) rfl fun a hA => ?_
            refine apq hA 15 rfl (by kernel_rfl) (by intro c a d v w h; cases d <;> exact h) (fun w => (q_eqlB Tryd.underlying4 rfl rfl)) rfl (listed' := #[true, true, true, true, true, true, true, true, true, true, true, true, true, true, true, true, false, false, false, false]) rfl fun a hA => ?_
            replace hA := hA.decT (by first | (have e0 : (recT n l sg).2 = 0 := (by omega)); simp [e0]; done | (have e0 : ¬ (recT n l sg).2 = 0 := (by omega)); simp [e0]; done)
            refine apq hA 16 rfl (by kernel_rfl) (by intro c a d v w h; cases d <;> exact h) (fun w => (q_move rfl)) rfl (listed' := #[true, true, true, true, true, true, true, true, true, true, true, true, true, true, true, true, true, false, false, false]) rfl fun a hA => ?_
            refine agl hA 17 rfl (by kernel_rfl) rfl rfl (lo_call fn27 rfl (awake5_any (hg.mono0 hH))) rfl (listed' := #[true, true, true, true, true, true, true, true, true, true, true, true, true, true, true, true, true, true, false, false]) rfl ?_
            rintro _ w ⟨rfl, hC⟩
            replace hH := HS.call0 hH hC
            clear hC
            have hS' := hH.pick [2, 3] (Hs' := [_, _]) rfl
            replace hS := hS'; clear hS'
            refine ⟨fun _ _ => hS, ?_⟩
            intro a hA
            refine apq hA 18 rfl (by kernel_rfl) (by intro c a d v w h; cases d <;> exact h) (fun w => (q_pick_t rfl rfl)) rfl (listed' := #[true, true, true, true, true, true, true, true, true, true, true, true, true, true, true, true, true, true, true, false]) rfl fun a hA => ?_
            refine apq hA 19 rfl (by kernel_rfl) (by intro c a d v w h; cases d <;> exact h) (fun w => (q_assign rfl)) rfl (listed' := #[true, true, true, true, true, true, true, true, true, true, true, true, true, true, true, true, true, true, true, true]) rfl fun a hA => ?_
            refine a_end (by kernel_rfl) ?_ _
            refine hK10 _ _ ?_
            clear hK10
            replace hA := hA.sub (E' := [(10, _)]) ⟨rfl, trivial⟩
            refine wp_ret ?_
            refine post_ret hA (res_1 rfl hA rfl) ?_
            replace hH := hH.pick [] (Hs' := []) rfl
            exact ⟨_, rfl, rfl, hH⟩
          · skip
            refine oneL hA 4 rfl (lo_buildSlice (e := 24) (vs := []) (cs := []) (k := 32) (bb := 0) (z := undef) hH rfl rfl (fun w => by kernel_rfl)) rfl (listed' := #[true, true, true, false, true, true, false, false, true, true, false, false, false, false, false, false, false, false, false, false]) rfl ?_
            clear hH; rintro v_t35 w ⟨N_t35, hO_t35, hH⟩
            replace hO_t35 : OwD 24 v_t35 [] N_t35 := hO_t35
            have hS' := hH.pick [1, 2] (Hs' := [_, _]) rfl
            replace hS := hS'; clear hS'
            refine ⟨fun _ _ => hS, ?_⟩
            intro a hA
            refine al hA 3 rfl (by kernel_rfl) (lo_call fn33 rfl (own5_any _ _ (hH.rd hu) (by first | omega | (simp; done) | (simp; omega) | (simp [*]; omega) | (simp at *; omega)))) rfl (listed' := #[true, true, true, true, true, true, false, false, true, true, false, false, false, false, false, false, false, false, false, false]) rfl ?_
            rintro _ w ⟨v_t34, N_t34, rfl, hO_t34, hC⟩
            replace hH := HS.call0 hH hC
            clear hC
            have hS' := hH.pick [2, 3] (Hs' := [_, _]) rfl
            replace hS := hS'; clear hS'
            refine ⟨fun _ _ => hS, ?_⟩
            intro a hA
            replace hH := hH.pick [1, 0, 2, 3] (Hs' := [_, _, _, _]) rfl
            refine al hA 6 rfl (by kernel_rfl) (lo_appD hH Tryd.underlying22 Tryd.underlying22 (.inl rfl) ti24 rfl rfl rfl hO_t35 (hH.rd hr) (by first | omega | (simp; done) | (simp; omega)) (by first | omega | (simp; done) | (simp; omega))) rfl (listed' := #[true, true, true, true, true, true, true, false, true, true, false, false, false, false, false, false, false, false, false, false]) rfl ?_
            clear hH; rintro v_t37 w ⟨N_t37, hO_t37, hH⟩
            have hS' := hH.pick [2, 3] (Hs' := [_, _]) rfl
            replace hS := hS'; clear hS'
            refine ⟨fun _ _ => hS, ?_⟩
            intro a hA
            refine al hA 7 rfl (by kernel_rfl) (lo_call fn38 rfl (verify_any (hg.mono0 hH) _ (by first | rfl | assumption | exact sha_length _ | (simp; done) | (rw [List.length_map]; assumption) | (simp [*]; done) | omega) _ _ _ (Own.rd0 hO_t34 hH 1 rfl) (by first | omega | (simp; done) | (simp; omega) | (simp [*]; omega) | (simp at *; omega)) _ _ (by assumption) (Own.rd0 hO_t37 hH 0 rfl) (by first | omega | (simp; done) | (simp; omega) | (simp [*]; omega) | (simp at *; omega)))) rfl (listed' := #[true, true, true, true, true, true, true, true, true, true, false, false, false, false, false, false, false, false, false, false]) rfl ?_
            rintro _ w ⟨rfl, hC⟩
            replace hH := HS.call0 hH hC
            clear hC
            have hS' := hH.pick [2, 3] (Hs' := [_, _]) rfl
            replace hS := hS'; clear hS'
            refine ⟨fun _ _ => hS, ?_⟩
            intro a hA
            refine apq hA 10 rfl (by kernel_rfl) (by intro c a d v w h; cases d <;> exact h) (fun w => (q_move rfl)) rfl (listed' := #[true, true, true, true, true, true, true, true, true, true, true, false, false, false, false, false, false, false, false, false]) rfl fun a hA => ?_
            refine agq hA 11 rfl (by kernel_rfl) rfl rfl (by intro c a d v w h; cases d <;> exact h) hS (fun w hH => (q_loadW hH 0 rfl Tryd.underlying24 rfl ti24 rfl (by first | omega | (simp; done) | (simp; omega) | (rw [List.length_map]; assumption) | assumption | rfl | (simp [*]; done) | (simp [*]; omega)))) rfl (listed' := #[true, true, true, true, true, true, true, true, true, true, true, true, false, false, false, false, false, false, false, false]) rfl fun a hA => ?_
            refine agq hA 12 rfl (by kernel_rfl) rfl rfl (by intro c a d v w h; cases d <;> exact h) hS (fun w hH => (q_loadW hH 1 rfl Tryd.underlying24 rfl ti24 rfl (by first | omega | (simp; done) | (simp; omega) | (rw [List.length_map]; assumption) | assumption | rfl | (simp [*]; done) | (simp [*]; omega)))) rfl (listed' := #[true, true, true, true, true, true, true, true, true, true, true, true, true, false, false, false, false, false, false, false]) rfl fun a hA => ?_
            refine apgq hA 13 rfl (by kernel_rfl) rfl rfl (by intro c a d v w h; cases d <;> exact h) (fun w => (q_eqlA8 eqa24 rfl rfl rfl rfl (by first | rfl | assumption | exact sha_length _ | (simp; done) | (rw [List.length_map]; assumption) | (simp [*]; done) | omega) (by first | rfl | assumption | exact sha_length _ | (simp; done) | (rw [List.length_map]; assumption) | (simp [*]; done) | omega))) rfl (listed' := #[true, true, true, true, true, true, true, true, true, true, true, true, true, true, false, false, false, false, false, false]) rfl fun a hA => ?_
            refine apq hA 14 rfl (by kernel_rfl) (by intro c a d v w h; cases d <;> exact h) (fun w => (q_pick_t rfl rfl)) rfl (listed' := #[true, true, true, true, true, true, true, true, true, true, true, true, true, true, true, false, false, false, false, false]) rfl fun a hA => ?_
            refine apq hA 15 rfl (by kernel_rfl) (by intro c a d v w h; cases d <;> exact h) (fun w => (q_eqlB Tryd.underlying4 rfl rfl)) rfl (listed' := #[true, true, true, true, true, true, true, true, true, true, true, true, true, true, true, true, false, false, false, false]) rfl fun a hA => ?_
            replace hA := hA.decT (by first | (have e0 : (recT n l sg).2 = 0 := (by omega)); simp [e0]; done | (have e0 : ¬ (recT n l sg).2 = 0 := (by omega)); simp [e0]; done)
            refine apq hA 16 rfl (by kernel_rfl) (by intro c a d v w h; cases d <;> exact h) (fun w => (q_move rfl)) rfl (listed' := #[true, true, true, true, true, true, true, true, true, true, true, true, true, true, true, true, true, false, false, false]) rfl fun a hA => ?_
            refine agl hA 17 rfl (by kernel_rfl) rfl rfl (lo_call fn27 rfl (awake5_any (hg.mono0 hH))) rfl (listed' := #[true, true, true, true, true, true, true, true, true, true, true, true, true, true, true, true, true, true, false, false]) rfl ?_
            rintro _ w ⟨rfl, hC⟩
            replace hH := HS.call0 hH hC
            clear hC
            have hS' := hH.pick [2, 3] (Hs' := [_, _]) rfl
            replace hS := hS'; clear hS'
            refine ⟨fun _ _ => hS, ?_⟩
            intro a hA
            refine apq hA 18 rfl (by kernel_rfl) (by intro c a d v w h; cases d <;> exact h) (fun w => (q_pick_t rfl rfl)) rfl (listed' := #[true, true, true, true, true, true, true, true, true, true, true, true, true, true, true, true, true, true, true, false]) rfl fun a hA => ?_
            refine apq hA 19 rfl (by kernel_rfl) (by intro c a d v w h; cases d <;> exact h) (fun w => (q_assign rfl)) rfl (listed' := #[true, true, true, true, true, true, true, true, true, true, true, true, true, true, true, true, true, true, true, true]) rfl fun a hA => ?_
            refine a_end (by kernel_rfl) ?_ _
            refine hK10 _ _ ?_
            clear hK10
            replace hA := hA.sub (E' := [(10, _)]) ⟨rfl, trivial⟩
            refine wp_ret ?_
            refine post_ret hA (res_1 rfl hA rfl) ?_
            replace hH := hH.pick [] (Hs' := []) rfl
            exact ⟨_, rfl, rfl, hH⟩
        · skip
          refine a_ch2 (i := 3) (j := 4) (by kernel_rfl) ?_ ?_
          · skip
            refine oneL hA 3 rfl (lo_call fn33 rfl (own5_any _ _ (hH.rd hu) (by first | omega | (simp; done) | (simp; omega) | (simp [*]; omega) | (simp at *; omega)))) rfl (listed' := #[true, true, true, true, false, true, false, false, true, true, false, false, false, false, false, false, false, false, false, false]) rfl ?_
            rintro _ w ⟨v_t34, N_t34, rfl, hO_t34, hC⟩
            replace hH := HS.call0 hH hC
            clear hC
            have hS' := hH.pick [1, 2] (Hs' := [_, _]) rfl
            replace hS := hS'; clear hS'
            refine ⟨fun _ _ => hS, ?_⟩
            intro a hA
            refine al hA 4 rfl (by kernel_rfl) (lo_buildSlice (e := 24) (vs := []) (cs := []) (k := 32) (bb := 0) (z := undef) hH rfl rfl (fun w => by kernel_rfl)) rfl (listed' := #[true, true, true, true, true, true, false, false, true, true, false, false, false, false, false, false, false, false, false, false]) rfl ?_
            clear hH; rintro v_t35 w ⟨N_t35, hO_t35, hH⟩
            replace hO_t35 : OwD 24 v_t35 [] N_t35 := hO_t35
            have hS' := hH.pick [2, 3] (Hs' := [_, _]) rfl
            replace hS := hS'; clear hS'
            refine ⟨fun _ _ => hS, ?_⟩
            intro a hA
            refine al hA 6 rfl (by kernel_rfl) (lo_appD hH Tryd.underlying22 Tryd.underlying22 (.inl rfl) ti24 rfl rfl rfl hO_t35 (hH.rd hr) (by first | omega | (simp; done) | (simp; omega)) (by first | omega | (simp; done) | (simp; omega))) rfl (listed' := #[true, true, true, true, true, true, true, false, true, true, false, false, false, false, false, false, false, false, false, false]) rfl ?_
            clear hH; rintro v_t37 w ⟨N_t37, hO_t37, hH⟩
            have hS' := hH.pick [2, 3] (Hs' := [_, _]) rfl
            replace hS := hS'; clear hS'
            refine ⟨fun _ _ => hS, ?_⟩
            intro a hA
            refine al hA 7 rfl (by kernel_rfl) (lo_call fn38 rfl (verify_any (hg.mono0 hH) _ (by first | rfl | assumption | exact sha_length _ | (simp; done) | (rw [List.length_map]; assumption) | (simp [*]; done) | omega) _ _ _ (Own.rd0 hO_t34 hH 1 rfl) (by first | omega | (simp; done) | (simp; omega) | (simp [*]; omega) | (simp at *; omega)) _ _ (by assumption) (Own.rd0 hO_t37 hH 0 rfl) (by first | omega | (simp; done) | (simp; omega) | (simp [*]; omega) | (simp at *; omega)))) rfl (listed' := #[true, true, true, true, true, true, true, true, true, true, false, false, false, false, false, false, false, false, false, false]) rfl ?_
            rintro _ w ⟨rfl, hC⟩
            replace hH := HS.call0 hH hC
            clear hC
            have hS' := hH.pick [2, 3] (Hs' := [_, _]) rfl
            replace hS := hS'; clear hS'
            refine ⟨fun _ _ => hS, ?_⟩
            intro a hA
            refine apq hA 10 rfl (by kernel_rfl) (by intro c a d v w h; cases d <;> exact h) (fun w => (q_move rfl)) rfl (listed' := #[true, true, true, true, true, true, true, true, true, true, true, false, false, false, false, false, false, false, false, false]) rfl fun a hA => ?_
            refine apgs hA 11 rfl (by kernel_rfl) rfl rfl rfl (by intro c a d v w h; cases d <;> exact h) rfl (listed' := #[true, true, true, true, true, true, true, true, true, true, true, true, false, false, false, false, false, false, false, false]) rfl fun a hA => ?_
            refine apgs hA 12 rfl (by kernel_rfl) rfl rfl rfl (by intro c a d v w h; cases d <;> exact h) rfl (listed' := #[true, true, true, true, true, true, true, true, true, true, true, true, true, false, false, false, false, false, false, false]) rfl fun a hA => ?_
            refine apgs hA 13 rfl (by kernel_rfl) rfl rfl rfl (by intro c a d v w h; cases d <;> exact h) rfl (listed' := #[true, true, true, true, true, true, true, true, true, true, true, true, true, true, false, false, false, false, false, false]) rfl fun a hA => ?_
            refine apq hA 14 rfl (by kernel_rfl) (by intro c a d v w h; cases d <;> exact h) (fun w => (q_pick_f rfl rfl)) rfl (listed' := #[true, true, true, true, true, true, true, true, true, true, true, true, true, true, true, false, false, false, false, false]) rfl fun a hA => ?_
            refine apq hA 15 rfl (by kernel_rfl) (by intro c a d v w h; cases d <;> exact h) (fun w => (q_eqlB Tryd.underlying4 rfl rfl)) rfl (listed' := #[true, true, true, true, true, true, true, true, true, true, true, true, true, true, true, true, false, false, false, false]) rfl fun a hA => ?_
            replace hA := hA.decT (by first | (have e0 : (recT n l sg).2 = 0 := (by omega)); simp [e0]; done | (have e0 : ¬ (recT n l sg).2 = 0 := (by omega)); simp [e0]; done)
            refine apq hA 16 rfl (by kernel_rfl) (by intro c a d v w h; cases d <;> exact h) (fun w => (q_move rfl)) rfl (listed' := #[true, true, true, true, true, true, true, true, true, true, true, true, true, true, true, true, true, false, false, false]) rfl fun a hA => ?_
            refine agl hA 17 rfl (by kernel_rfl) rfl rfl (lo_call fn27 rfl (awake5_any (hg.mono0 hH))) rfl (listed' := #[true, true, true, true, true, true, true, true, true, true, true, true, true, true, true, true, true, true, false, false]) rfl ?_
            rintro _ w ⟨rfl, hC⟩
            replace hH := HS.call0 hH hC
            clear hC
            have hS' := hH.pick [2, 3] (Hs' := [_, _]) rfl
            replace hS := hS'; clear hS'
            refine ⟨fun _ _ => hS, ?_⟩
            intro a hA
            refine apq hA 18 rfl (by kernel_rfl) (by intro c a d v w h; cases d <;> exact h) (fun w => (q_pick_t rfl rfl)) rfl (listed' := #[true, true, true, true, true, true, true, true, true, true, true, true, true, true, true, true, true, true, true, false]) rfl fun a hA => ?_
            refine apq hA 19 rfl (by kernel_rfl) (by intro c a d v w h; cases d <;> exact h) (fun w => (q_assign rfl)) rfl (listed' := #[true, true, true, true, true, true, true, true, true, true, true, true, true, true, true, true, true, true, true, true]) rfl fun a hA => ?_
            refine a_end (by kernel_rfl) ?_ _
            refine hK10 _ _ ?_
            clear hK10
            replace hA := hA.sub (E' := [(10, _)]) ⟨rfl, trivial⟩
            refine wp_ret ?_
            refine post_ret hA (res_1 rfl hA rfl) ?_
            replace hH := hH.pick [] (Hs' := []) rfl
            exact ⟨_, rfl, rfl, hH⟩
          · skip
            refine oneL hA 4 rfl (lo_buildSlice (e := 24) (vs := []) (cs := []) (k := 32) (bb := 0) (z := undef) hH rfl rfl (fun w => by kernel_rfl)) rfl (listed' := #[true, true, true, false, true, true, false, false, true, true, false, false, false, false, false, false, false, false, false, false]) rfl ?_
            clear hH; rintro v_t35 w ⟨N_t35, hO_t35, hH⟩
            replace hO_t35 : OwD 24 v_t35 [] N_t35 := hO_t35
            have hS' := hH.pick [1, 2] (Hs' := [_, _]) rfl
            replace hS := hS'; clear hS'
            refine ⟨fun _ _ => hS, ?_⟩
            intro a hA
            refine al hA 3 rfl (by kernel_rfl) (lo_call fn33 rfl (own5_any _ _ (hH.rd hu) (by first | omega | (simp; done) | (simp; omega) | (simp [*]; omega) | (simp at *; omega)))) rfl (listed' := #[true, true, true, true, true, true, false, false, true, true, false, false, false, false, false, false, false, false, false, false]) rfl ?_
            rintro _ w ⟨v_t34, N_t34, rfl, hO_t34, hC⟩
            replace hH := HS.call0 hH hC
            clear hC
            have hS' := hH.pick [2, 3] (Hs' := [_, _]) rfl
            replace hS := hS'; clear hS'
            refine ⟨fun _ _ => hS, ?_⟩
            intro a hA
            replace hH := hH.pick [1, 0, 2, 3] (Hs' := [_, _, _, _]) rfl
            refine al hA 6 rfl (by kernel_rfl) (lo_appD hH Tryd.underlying22 Tryd.underlying22 (.inl rfl) ti24 rfl rfl rfl hO_t35 (hH.rd hr) (by first | omega | (simp; done) | (simp; omega)) (by first | omega | (simp; done) | (simp; omega))) rfl (listed' := #[true, true, true, true, true, true, true, false, true, true, false, false, false, false, false, false, false, false, false, false]) rfl ?_
            clear hH; rintro v_t37 w ⟨N_t37, hO_t37, hH⟩
            have hS' := hH.pick [2, 3] (Hs' := [_, _]) rfl
            replace hS := hS'; clear hS'
            refine ⟨fun _ _ => hS, ?_⟩
            intro a hA
            refine al hA 7 rfl (by kernel_rfl) (lo_call fn38 rfl (verify_any (hg.mono0 hH) _ (by first | rfl | assumption | exact sha_length _ | (simp; done) | (rw [List.length_map]; assumption) | (simp [*]; done) | omega) _ _ _ (Own.rd0 hO_t34 hH 1 rfl) (by first | omega | (simp; done) | (simp; omega) | (simp [*]; omega) | (simp at *; omega)) _ _ (by assumption) (Own.rd0 hO_t37 hH 0 rfl) (by first | omega | (simp; done) | (simp; omega) | (simp [*]; omega) | (simp at *; omega)))) rfl (listed' := #[true, true, true, true, true, true, true, true, true, true, false, false, false, false, false, false, false, false, false, false]) rfl ?_
            rintro _ w ⟨rfl, hC⟩
            replace hH := HS.call0 hH hC
            clear hC
            have hS' := hH.pick [2, 3] (Hs' := [_, _]) rfl
            replace hS := hS'; clear hS'
            refine ⟨fun _ _ => hS, ?_⟩
            intro a hA
            refine apq hA 10 rfl (by kernel_rfl) (by intro c a d v w h; cases d <;> exact h) (fun w => (q_move rfl)) rfl (listed' := #[true, true, true, true, true, true, true, true, true, true, true, false, false, false, false, false, false, false, false, false]) rfl fun a hA => ?_
            refine apgs hA 11 rfl (by kernel_rfl) rfl rfl rfl (by intro c a d v w h; cases d <;> exact h) rfl (listed' := #[true, true, true, true, true, true, true, true, true, true, true, true, false, false, false, false, false, false, false, false]) rfl fun a hA => ?_
            refine apgs hA 12 rfl (by kernel_rfl) rfl rfl rfl (by intro c a d v w h; cases d <;> exact h) rfl (listed' := #[true, true, true, true, true, true, true, true, true, true, true, true, true, false, false, false, false, false, false, false]) rfl fun a hA => ?_
            refine apgs hA 13 rfl (by kernel_rfl) rfl rfl rfl (by intro c a d v w h; cases d <;> exact h) rfl (listed' := #[true, true, true, true, true, true, true, true, true, true, true, true, true, true, false, false, false, false, false, false]) rfl fun a hA => ?_
            refine apq hA 14 rfl (by kernel_rfl) (by intro c a d v w h; cases d <;> exact h) (fun w => (q_pick_f rfl rfl)) rfl (listed' := #[true, true, true, true, true, true, true, true, true, true, true, true, true, true, true, false, false, false, false, false]) rfl fun a hA => ?_
            refine apq hA 15 rfl (by kernel_rfl) (by intro c a d v w h; cases d <;> exact h) (fun w => (q_eqlB Tryd.underlying4 rfl rfl)) rfl (listed' := #[true, true, true, true, true, true, true, true, true, true, true, true, true, true, true, true, false, false, false, false]) rfl fun a hA => ?_
            replace hA := hA.decT (by first | (have e0 : (recT n l sg).2 = 0 := (by omega)); simp [e0]; done | (have e0 : ¬ (recT n l sg).2 = 0 := (by omega)); simp [e0]; done)
            refine apq hA 16 rfl (by kernel_rfl) (by intro c a d v w h; cases d <;> exact h) (fun w => (q_move rfl)) rfl (listed' := #[true, true, true, true, true, true, true, true, true, true, true, true, true, true, true, true, true, false, false, false]) rfl fun a hA => ?_
            refine agl hA 17 rfl (by kernel_rfl) rfl rfl (lo_call fn27 rfl (awake5_any (hg.mono0 hH))) rfl (listed' := #[true, true, true, true, true, true, true, true, true, true, true, true, true, true, true, true, true, true, false, false]) rfl ?_
            rintro _ w ⟨rfl, hC⟩
            replace hH := HS.call0 hH hC
            clear hC
            have hS' := hH.pick [2, 3] (Hs' := [_, _]) rfl
            replace hS := hS'; clear hS'
            refine ⟨fun _ _ => hS, ?_⟩
            intro a hA
            refine apq hA 18 rfl (by kernel_rfl) (by intro c a d v w h; cases d <;> exact h) (fun w => (q_pick_t rfl rfl)) rfl (listed' := #[true, true, true, true, true, true, true, true, true, true, true, true, true, true, true, true, true, true, true, false]) rfl fun a hA => ?_
            refine apq hA 19 rfl (by kernel_rfl) (by intro c a d v w h; cases d <;> exact h) (fun w => (q_assign rfl)) rfl (listed' := #[true, true, true, true, true, true, true, true, true, true, true, true, true, true, true, true, true, true, true, true]) rfl fun a hA => ?_
            refine a_end (by kernel_rfl) ?_ _
            refine hK10 _ _ ?_
            clear hK10
            replace hA := hA.sub (E' := [(10, _)]) ⟨rfl, trivial⟩
            refine wp_ret ?_
            refine post_ret hA (res_1 rfl hA rfl) ?_
            replace hH := hH.pick [] (Hs' := []) rfl
            exact ⟨_, rfl, rfl, hH⟩

theorem otsShows_bad {w0 : World} (hg : Gl 2 w0) (s : Bs) (hs : s.length = 32) (n : Int) (hn : ¬ R5 n) (u : Value) (l : Bs) (hu : By [] w0 u l) (hl : l.length ≤ 1048576) :
    Calls Tryd.prog 13 #[(.agg ((s).map B8).toArray), I n, u] w0 (Ret fun r w' => r = .bool true ∧ HS [] w0 w' []) := by
  have hH := HS.start w0
  refine start (n := 97) (E := [(0, _), (1, _), (2, _)]) Tryd.func13 rfl rfl rfl (args_look rfl) ?_
  intro a hA
  refine wp_seq_k fun K1 hK1 => ?_
  refine wp_region_lit ?_
  refine sl hA (lo_boxA hH rfl) rfl ?_
  clear hH; rintro _ w ⟨b_t3, rfl, hH⟩ a hA
  refine sq hA (q_assign rfl) rfl fun a hA => ?_
  refine wpList_nil ?_
  refine hK1 _ _ ?_
  clear hK1
  replace hA := hA.sub (E' := [(6, _), (3, _), (1, _), (2, _)]) ⟨rfl, rfl, rfl, rfl, trivial⟩
  refine wp_seq_k fun K2 hK2 => ?_
  refine wp_seq_k fun K3 hK3 => ?_
  refine wp_region_lit ?_
  refine sq hA (q_move rfl) rfl fun a hA => ?_
  refine sq hA (q_len Tryd.underlying49 rfl (Rd.shp hu)) rfl fun a hA => ?_
  refine sq hA (q_gtrI (n := 500) rfl rfl) rfl fun a hA => ?_
  refine hA.spl (fun hs17 hA => ?_) (fun hs17 hA => ?_)
  · skip
    refine sq hA (q_move rfl) rfl fun a hA => ?_
    refine gs hA rfl rfl rfl rfl fun a hA => ?_
    refine gs hA rfl rfl rfl rfl fun a hA => ?_
    refine gs hA rfl rfl rfl rfl fun a hA => ?_
    refine sq hA (q_pick_t rfl rfl) rfl fun a hA => ?_
    refine wpList_nil ?_
    refine hK3 _ _ ?_
    clear hK3
    replace hA := hA.sub (E' := [(22, _), (6, _), (3, _), (1, _), (2, _)]) ⟨rfl, rfl, rfl, rfl, rfl, trivial⟩
    refine cond_t hA rfl ?_
    refine wp_seq_k fun K4 hK4 => ?_
    refine wp_region_lit ?_
    refine sl hA (lo_call fn27 rfl (awake5_any (hg.mono0 hH))) rfl ?_
    rintro _ w ⟨rfl, hC⟩ a hA
    replace hH := HS.call0 hH hC
    clear hC
    refine sq hA (q_assign rfl) rfl fun a hA => ?_
    refine wpList_nil ?_
    refine hK4 _ _ ?_
    clear hK4
    replace hA := hA.sub (E' := [(6, _), (3, _), (1, _), (2, _)]) ⟨rfl, rfl, rfl, rfl, trivial⟩
    refine wp_ret ?_
    refine then_ret ?_
    refine post_ret hA (res_1 rfl hA rfl) ?_
    replace hH := hH.pick [] (Hs' := []) rfl
    exact ⟨_, rfl, rfl, hH⟩
  · skip
    refine sq hA (q_move rfl) rfl fun a hA => ?_
    refine gq hA rfl rfl (q_move rfl) rfl fun a hA => ?_
    refine gl hA rfl rfl (lo_call fn37 rfl (refright5_any _)) rfl ?_
    rintro _ w ⟨rfl, hC⟩ a hA
    replace hH := HS.call0 hH hC
    clear hC
    replace hA := hA.decF (by exact hn)
    refine gq hA rfl rfl (q_not rfl) rfl fun a hA => ?_
    refine sq hA (q_pick_f rfl rfl) rfl fun a hA => ?_
    refine wpList_nil ?_
    refine hK3 _ _ ?_
    clear hK3
    replace hA := hA.sub (E' := [(22, _), (6, _), (3, _), (1, _), (2, _)]) ⟨rfl, rfl, rfl, rfl, rfl, trivial⟩
    refine cond_t hA rfl ?_
    refine wp_seq_k fun K5 hK5 => ?_
    refine wp_region_lit ?_
    refine sl hA (lo_call fn27 rfl (awake5_any (hg.mono0 hH))) rfl ?_
    rintro _ w ⟨rfl, hC⟩ a hA
    replace hH := HS.call0 hH hC
    clear hC
    refine sq hA (q_assign rfl) rfl fun a hA => ?_
    refine wpList_nil ?_
    refine hK5 _ _ ?_
    clear hK5
    replace hA := hA.sub (E' := [(6, _), (3, _), (1, _), (2, _)]) ⟨rfl, rfl, rfl, rfl, trivial⟩
    refine wp_ret ?_
    refine then_ret ?_
    refine post_ret hA (res_1 rfl hA rfl) ?_
    replace hH := hH.pick [] (Hs' := []) rfl
    exact ⟨_, rfl, rfl, hH⟩

theorem otsShows_ok {w0 : World} (hg : Gl 2 w0) (s : Bs) (hs : s.length = 32) (n : Nat) (hn : R5 n) (u : Value) (l : Bs) (hu : By [] w0 u l) (hl : l.length ≤ 1048576) :
    Calls Tryd.prog 13 #[(.agg ((s).map B8).toArray), I n, u] w0 (Ret fun r w' => r = .bool true ∧ HS [] w0 w' []) := by
  have hH := HS.start w0
  refine start (n := 97) (E := [(0, _), (1, _), (2, _)]) Tryd.func13 rfl rfl rfl (args_look rfl) ?_
  intro a hA
  have hn1 := hn.1
  have hn2 := hn.2
  have hpd := pubV_dg s (2 * n)
  have hsd := sigV_dg s l n
  have hsl : (sha l).length = 32 := by simp
  have hpl : (pubV s (2 * n)).length = 2 * n := by simp
  have hsl2 : (sigV s l n).length = 2 * n := by simp
  refine wp_seq_k fun K1 hK1 => ?_
  refine wp_region_lit ?_
  refine sl hA (lo_boxA hH rfl) rfl ?_
  clear hH; rintro _ w ⟨b_t3, rfl, hH⟩ a hA
  refine sq hA (q_assign rfl) rfl fun a hA => ?_
  refine wpList_nil ?_
  refine hK1 _ _ ?_
  clear hK1
  replace hA := hA.sub (E' := [(6, _), (3, _), (1, _), (2, _)]) ⟨rfl, rfl, rfl, rfl, trivial⟩
  refine wp_seq_k fun K2 hK2 => ?_
  refine wp_seq_k fun K3 hK3 => ?_
  refine wp_region_lit ?_
  refine sq hA (q_move rfl) rfl fun a hA => ?_
  refine sq hA (q_len Tryd.underlying49 rfl (Rd.shp hu)) rfl fun a hA => ?_
  refine sq hA (q_gtrI (n := 500) rfl rfl) rfl fun a hA => ?_
  refine hA.spl (fun hs17 hA => ?_) (fun hs17 hA => ?_)
  · skip
    refine sq hA (q_move rfl) rfl fun a hA => ?_
    refine gs hA rfl rfl rfl rfl fun a hA => ?_
    refine gs hA rfl rfl rfl rfl fun a hA => ?_
    refine gs hA rfl rfl rfl rfl fun a hA => ?_
    refine sq hA (q_pick_t rfl rfl) rfl fun a hA => ?_
    refine wpList_nil ?_
    refine hK3 _ _ ?_
    clear hK3
    replace hA := hA.sub (E' := [(22, _), (6, _), (3, _), (1, _), (2, _)]) ⟨rfl, rfl, rfl, rfl, rfl, trivial⟩
    refine cond_t hA rfl ?_
    refine wp_seq_k fun K4 hK4 => ?_
    refine wp_region_lit ?_
    refine sl hA (lo_call fn27 rfl (awake5_any (hg.mono0 hH))) rfl ?_
    rintro _ w ⟨rfl, hC⟩ a hA
    replace hH := HS.call0 hH hC
    clear hC
    refine sq hA (q_assign rfl) rfl fun a hA => ?_
    refine wpList_nil ?_
    refine hK4 _ _ ?_
    clear hK4
    replace hA := hA.sub (E' := [(6, _), (3, _), (1, _), (2, _)]) ⟨rfl, rfl, rfl, rfl, trivial⟩
    refine wp_ret ?_
    refine then_ret ?_
    refine post_ret hA (res_1 rfl hA rfl) ?_
    replace hH := hH.pick [] (Hs' := []) rfl
    exact ⟨_, rfl, rfl, hH⟩
  · skip
    refine sq hA (q_move rfl) rfl fun a hA => ?_
    refine gq hA rfl rfl (q_move rfl) rfl fun a hA => ?_
    refine gl hA rfl rfl (lo_call fn37 rfl (refright5_any _)) rfl ?_
    rintro _ w ⟨rfl, hC⟩ a hA
    replace hH := HS.call0 hH hC
    clear hC
    replace hA := hA.decT (by exact hn)
    refine gq hA rfl rfl (q_not rfl) rfl fun a hA => ?_
    refine sq hA (q_pick_f rfl rfl) rfl fun a hA => ?_
    refine wpList_nil ?_
    refine hK3 _ _ ?_
    clear hK3
    replace hA := hA.sub (E' := [(22, _), (6, _), (3, _), (1, _), (2, _)]) ⟨rfl, rfl, rfl, rfl, rfl, trivial⟩
    refine cond_f hA rfl ?_
    refine wp_skip ?_
    refine hK2 _ _ ?_
    clear hK2
    replace hA := hA.sub (E' := [(6, _), (3, _), (1, _), (2, _)]) ⟨rfl, rfl, rfl, rfl, trivial⟩
    refine wp_seq_k fun K5 hK5 => ?_
    refine wp_region_lit ?_
    refine sq hA (q_loadW hH 0 rfl Tryd.underlying24 rfl ti24 rfl (by first | omega | (simp; done) | (simp; omega) | (rw [List.length_map]; assumption) | assumption | rfl | (simp [*]; done) | (simp [*]; omega))) rfl fun a hA => ?_
    refine sq hA (q_move rfl) rfl fun a hA => ?_
    refine sl hA (lo_call fn28 rfl (public_any (hg.mono0 hH) s hs n hn)) rfl ?_
    rintro _ w ⟨v_t27, N_t27, rfl, hO_t27, hC⟩ a hA
    replace hH := HS.call0 hH hC
    clear hC
    refine sq hA (q_move rfl) rfl fun a hA => ?_
    refine sq hA (q_extract rfl rfl) rfl fun a hA => ?_
    refine sq hA (q_extract rfl rfl) rfl fun a hA => ?_
    refine sq hA (q_assign rfl) rfl fun a hA => ?_
    refine sq hA (q_assign rfl) rfl fun a hA => ?_
    refine wpList_nil ?_
    refine hK5 _ _ ?_
    clear hK5
    replace hA := hA.sub (E' := [(7, _), (6, _), (3, _), (1, _), (2, _)]) ⟨rfl, rfl, rfl, rfl, rfl, trivial⟩
    refine wp_seq_k fun K6 hK6 => ?_
    refine any_go mixed (fun j => !(Nat.beq j 4)) hH ?_
    clear hH; intro w hH
    have hS := hH
    change wpK _ _ _ _ _ _ 10 #[false, false, false, false, false, false, false, false, false, false] _ _
    refine aq hA 0 rfl (by kernel_rfl) (by intro c a d v w h; cases d <;> exact h) hS (fun w hH => (q_loadW hH 1 rfl Tryd.underlying24 rfl ti24 rfl (by first | omega | (simp; done) | (simp; omega) | (rw [List.length_map]; assumption) | assumption | rfl | (simp [*]; done) | (simp [*]; omega)))) rfl (listed' := #[true, false, false, false, false, false, false, false, false, false]) rfl fun a hA => ?_
    refine apq hA 1 rfl (by kernel_rfl) (by intro c a d v w h; cases d <;> exact h) (fun w => (q_move rfl)) rfl (listed' := #[true, true, false, false, false, false, false, false, false, false]) rfl fun a hA => ?_
    refine apq hA 2 rfl (by kernel_rfl) (by intro c a d v w h; cases d <;> exact h) (fun w => (q_move rfl)) rfl (listed' := #[true, true, true, false, false, false, false, false, false, false]) rfl fun a hA => ?_
    refine al hA 3 rfl (by kernel_rfl) (lo_call fn33 rfl (own5_any _ _ (hH.rd hu) (by first | omega | (simp; done) | (simp; omega) | (simp [*]; omega) | (simp at *; omega)))) rfl (listed' := #[true, true, true, true, false, false, false, false, false, false]) rfl ?_
    rintro _ w ⟨v_t34, N_t34, rfl, hO_t34, hC⟩
    replace hH := HS.call0 hH hC
    clear hC
    have hS' := hH.pick [1, 2] (Hs' := [_, _]) rfl
    replace hS := hS'; clear hS'
    refine ⟨fun _ _ => hS, ?_⟩
    intro a hA
    refine al hA 4 rfl (by kernel_rfl) (lo_call fn32 rfl (sign_any (hg.mono0 hH) s hs n hn _ l (Own.rd0 hO_t34 hH 0 rfl) hl)) rfl (listed' := #[true, true, true, true, true, false, false, false, false, false]) rfl ?_
    rintro _ w ⟨v_t35, N_t35, rfl, hO_t35, hC⟩
    replace hH := HS.call0 hH hC
    clear hC
    refine ⟨fun _ h => absurd h (by decide), ?_⟩
    intro a hA
    refine apq hA 5 rfl (by kernel_rfl) (by intro c a d v w h; cases d <;> exact h) (fun w => (q_move rfl)) rfl (listed' := #[true, true, true, true, true, true, false, false, false, false]) rfl fun a hA => ?_
    refine apq hA 6 rfl (by kernel_rfl) (by intro c a d v w h; cases d <;> exact h) (fun w => (q_extract rfl rfl)) rfl (listed' := #[true, true, true, true, true, true, true, false, false, false]) rfl fun a hA => ?_
    refine apq hA 7 rfl (by kernel_rfl) (by intro c a d v w h; cases d <;> exact h) (fun w => (q_extract rfl rfl)) rfl (listed' := #[true, true, true, true, true, true, true, true, false, false]) rfl fun a hA => ?_
    refine apq hA 8 rfl (by kernel_rfl) (by intro c a d v w h; cases d <;> exact h) (fun w => (q_assign rfl)) rfl (listed' := #[true, true, true, true, true, true, true, true, true, false]) rfl fun a hA => ?_
    refine apq hA 9 rfl (by kernel_rfl) (by intro c a d v w h; cases d <;> exact h) (fun w => (q_assign rfl)) rfl (listed' := #[true, true, true, true, true, true, true, true, true, true]) rfl fun a hA => ?_
    refine a_end (by kernel_rfl) ?_ _
    refine hK6 _ _ ?_
    clear hK6
    replace hA := hA.sub (E' := [(9, _), (7, _), (6, _), (1, _), (2, _)]) ⟨rfl, rfl, rfl, rfl, rfl, trivial⟩
    refine wp_seq_k fun K7 hK7 => ?_
    refine wp_seq_k fun K8 hK8 => ?_
    refine wp_region_lit ?_
    refine sq hA (q_move rfl) rfl fun a hA => ?_
    refine sq hA (q_len Tryd.underlying22 rfl (Own.shp hO_t27)) rfl fun a hA => ?_
    refine sq hA (q_move rfl) rfl fun a hA => ?_
    refine sq hA (q_mulI (m := 2) rfl rfl (by omega)) rfl fun a hA => ?_
    refine sq hA (q_neqI rfl rfl) rfl fun a hA => ?_
    replace hA := hA.decF (by simp)
    refine sq hA (q_move rfl) rfl fun a hA => ?_
    refine gq hA rfl rfl (q_move rfl) rfl fun a hA => ?_
    refine gq hA rfl rfl (q_len Tryd.underlying22 rfl (Own.shp hO_t35)) rfl fun a hA => ?_
    refine gq hA rfl rfl (q_move rfl) rfl fun a hA => ?_
    refine gq hA rfl rfl (q_mulI (m := 2) rfl rfl (by omega)) rfl fun a hA => ?_
    refine gq hA rfl rfl (q_neqI rfl rfl) rfl fun a hA => ?_
    refine sq hA (q_pick_f rfl rfl) rfl fun a hA => ?_
    refine wpList_nil ?_
    refine hK8 _ _ ?_
    clear hK8
    replace hA := hA.sub (E' := [(49, _), (9, _), (7, _), (6, _), (1, _), (2, _)]) ⟨rfl, rfl, rfl, rfl, rfl, rfl, trivial⟩
    refine cond_d hA rfl (fun hnn => absurd hnn (by simp)) (fun _ => ?_)
    refine wp_skip ?_
    refine hK7 _ _ ?_
    clear hK7
    replace hA := hA.sub (E' := [(9, _), (7, _), (6, _), (1, _), (2, _)]) ⟨rfl, rfl, rfl, rfl, rfl, trivial⟩
    refine wp_seq_k fun K9 hK9 => ?_
    refine wp_region_lit ?_
    refine sq hA (q_move rfl) rfl fun a hA => ?_
    refine sl hA (lo_call fn40 rfl (refsum_any (hg.mono0 hH) _ _ (hH.rd hu) (by first | omega | (simp; done) | (simp; omega) | (simp [*]; omega) | (simp at *; omega)))) rfl ?_
    rintro _ w ⟨rfl, hC⟩ a hA
    replace hH := HS.call0 hH hC
    clear hC
    refine sl hA (lo_call fn39 rfl (refdigest_any _ (by first | rfl | assumption | exact sha_length _ | (simp; done) | (rw [List.length_map]; assumption) | (simp [*]; done) | omega))) rfl ?_
    rintro _ w ⟨v_t52, N_t52, rfl, hO_t52, hC⟩ a hA
    replace hH := HS.call0 hH hC
    clear hC
    refine sq hA (q_assign rfl) rfl fun a hA => ?_
    refine wpList_nil ?_
    refine hK9 _ _ ?_
    clear hK9
    replace hA := hA.sub (E' := [(11, _), (9, _), (7, _), (6, _), (1, _)]) ⟨rfl, rfl, rfl, rfl, rfl, trivial⟩
    refine wp_seq_k fun K10 hK10 => ?_
    refine wp_seq_k fun K11 hK11 => ?_
    refine wp_region_lit ?_
    refine sq hA (q_assign rfl) rfl fun a hA => ?_
    refine wpList_nil ?_
    refine hK11 _ _ ?_
    clear hK11
    refine wp_block ?_
    replace hH := hH.pick [3, 1, 0, 2, 4] (Hs' := [_, _, _, _, _]) rfl
    replace hH := HS.fold [_, _, _] [_, _] hH
    obtain ⟨NR12, hNR12, hH⟩ := hH
    refine wp_loop_ghost (fun gm a w => ∃ i : Nat, At 97 [(12, I i), (11, v_t52), (9, v_t35), (7, v_t27), (6, (.bool false)), (1, I n)] a ∧ HS [] w0 w ([N_t27, N_t35, N_t52, NR12]) ∧ (i ≤ n) ∧ gm = n - i) (n - (0)) ⟨0, hA.sub ⟨rfl, rfl, rfl, rfl, rfl, rfl, trivial⟩, hH, by omega, rfl⟩ ?_
    clear hA hH
    rintro gm a w ⟨i, hA, hH, hi, rfl⟩
    refine wp_seq_k fun K13 hK13 => ?_
    refine wp_seq_k fun K14 hK14 => ?_
    refine wp_region_lit ?_
    refine sq hA (q_move rfl) rfl fun a hA => ?_
    refine sq hA (q_move rfl) rfl fun a hA => ?_
    refine sq hA (q_lssI rfl rfl) rfl fun a hA => ?_
    refine wpList_nil ?_
    refine hK14 _ _ ?_
    clear hK14
    refine cond_d hA rfl (fun hc55 => ?_) (fun hc55 => ?_)
    · skip
      refine wp_skip ?_
      refine hK13 _ _ ?_
      clear hK13
      refine wp_seq_k fun K15 hK15 => ?_
      refine wp_block ?_
      refine wp_seq_k fun K16 hK16 => ?_
      refine wp_region_lit ?_
      refine sq hA (q_move rfl) rfl fun a hA => ?_
      refine sq hA (q_move rfl) rfl fun a hA => ?_
      refine sl hA (lo_call fn41 rfl (refbit_any _ _ _ (Own.rd0 hO_t52 hH 2 rfl) (by first | omega | (simp; done) | (simp; omega) | (simp [*]; omega) | (simp at *; omega)) (by first | omega | (simp; done) | (simp; omega) | (simp [*]; omega) | (simp at *; omega)))) rfl ?_
      rintro _ w ⟨rfl, hC⟩ a hA
      replace hH := HS.call0 hH hC
      clear hC
      refine sq hA (q_move rfl) rfl fun a hA => ?_
      refine sq hA (q_extract rfl rfl) rfl fun a hA => ?_
      refine sq hA (q_extract rfl rfl) rfl fun a hA => ?_
      have hb := btV_lt l i
      rw [show bitV (sha l) i = btV l i from rfl] at hA
      have h0 := hsd.getD (i := 2 * i) (by simp; omega)
      have h1 := hsd.getD (i := 2 * i + 1) (by simp; omega)
      have h2 := hpd.getD (i := 2 * i + btV l i) (by simp; omega)
      have h3 := hpd.getD (i := 2 * i + 1 - btV l i) (by simp; omega)
      refine sq hA (q_assign rfl) rfl fun a hA => ?_
      refine sq hA (q_assign rfl) rfl fun a hA => ?_
      refine wpList_nil ?_
      refine hK16 _ _ ?_
      clear hK16
      replace hA := hA.sub (E' := [(13, _), (63, _), (62, _), (58, _), (61, _), (60, _), (59, _), (55, _), (54, _), (53, _), (12, _), (11, _), (9, _), (7, _), (6, _), (1, _)]) ⟨rfl, rfl, rfl, rfl, rfl, rfl, rfl, rfl, rfl, rfl, rfl, rfl, rfl, rfl, rfl, rfl, trivial⟩
      refine wp_seq_k fun K17 hK17 => ?_
      refine any_go mixed (fun _ => true) hH ?_
      clear hH; intro w hH
      have hS := hH
      change wpK _ _ _ _ _ _ 32 #[false, false, false, false, false, false, false, false, false, false, false, false, false, false, false, false, false, false, false, false, false, false, false, false, false, false, false, false, false, false, false, false] _ _
      refine apq hA 0 rfl (by kernel_rfl) (by intro c a d v w h; cases d <;> exact h) (fun w => (q_move rfl)) rfl (listed' := #[true, false, false, false, false, false, false, false, false, false, false, false, false, false, false, false, false, false, false, false, false, false, false, false, false, false, false, false, false, false, false, false]) rfl fun a hA => ?_
      refine apq hA 1 rfl (by kernel_rfl) (by intro c a d v w h; cases d <;> exact h) (fun w => (q_move rfl)) rfl (listed' := #[true, true, false, false, false, false, false, false, false, false, false, false, false, false, false, false, false, false, false, false, false, false, false, false, false, false, false, false, false, false, false, false]) rfl fun a hA => ?_
      refine apq hA 2 rfl (by kernel_rfl) (by intro c a d v w h; cases d <;> exact h) (fun w => (q_mulI (m := 2) rfl rfl (by omega))) rfl (listed' := #[true, true, true, false, false, false, false, false, false, false, false, false, false, false, false, false, false, false, false, false, false, false, false, false, false, false, false, false, false, false, false, false]) rfl fun a hA => ?_
      refine apq hA 3 rfl (by kernel_rfl) (by intro c a d v w h; cases d <;> exact h) (fun w => (q_idxk ((2 * i)) Tryd.underlying22 ti24 rfl rfl (by first | omega | rfl) (Own.shp hO_t35) (by first | omega | (simp; done) | (simp; omega) | (rw [List.length_map]; assumption) | assumption | rfl | (simp [*]; done) | (simp [*]; omega)))) rfl (listed' := #[true, true, true, true, false, false, false, false, false, false, false, false, false, false, false, false, false, false, false, false, false, false, false, false, false, false, false, false, false, false, false, false]) rfl fun a hA => ?_
      refine aq hA 4 rfl (by kernel_rfl) (by intro c a d v w h; cases d <;> exact h) hS (fun w hH => (q_loadRA (i := (2 * i)) Tryd.underlying24 rfl ti24 rfl (Own.rd0 hO_t35 hH 1 rfl) (by first | omega | (simp; done) | (simp; omega) | (rw [List.length_map]; assumption) | assumption | rfl | (simp [*]; done) | (simp [*]; omega)) _ (dc_at (by assumption) (by first | omega | (simp; done) | (simp; omega) | (rw [List.length_map]; assumption) | assumption | rfl | (simp [*]; done) | (simp [*]; omega))))) rfl (listed' := #[true, true, true, true, true, false, false, false, false, false, false, false, false, false, false, false, false, false, false, false, false, false, false, false, false, false, false, false, false, false, false, false]) rfl fun a hA => ?_
      refine apq hA 7 rfl (by kernel_rfl) (by intro c a d v w h; cases d <;> exact h) (fun w => (q_move rfl)) rfl (listed' := #[true, true, true, true, true, false, false, true, false, false, false, false, false, false, false, false, false, false, false, false, false, false, false, false, false, false, false, false, false, false, false, false]) rfl fun a hA => ?_
      refine apq hA 8 rfl (by kernel_rfl) (by intro c a d v w h; cases d <;> exact h) (fun w => (q_move rfl)) rfl (listed' := #[true, true, true, true, true, false, false, true, true, false, false, false, false, false, false, false, false, false, false, false, false, false, false, false, false, false, false, false, false, false, false, false]) rfl fun a hA => ?_
      refine apq hA 9 rfl (by kernel_rfl) (by intro c a d v w h; cases d <;> exact h) (fun w => (q_mulI (m := 2) rfl rfl (by omega))) rfl (listed' := #[true, true, true, true, true, false, false, true, true, true, false, false, false, false, false, false, false, false, false, false, false, false, false, false, false, false, false, false, false, false, false, false]) rfl fun a hA => ?_
      refine apq hA 10 rfl (by kernel_rfl) (by intro c a d v w h; cases d <;> exact h) (fun w => (q_move rfl)) rfl (listed' := #[true, true, true, true, true, false, false, true, true, true, true, false, false, false, false, false, false, false, false, false, false, false, false, false, false, false, false, false, false, false, false, false]) rfl fun a hA => ?_
      refine apq hA 11 rfl (by kernel_rfl) (by intro c a d v w h; cases d <;> exact h) (fun w => (q_addI rfl rfl (by omega))) rfl (listed' := #[true, true, true, true, true, false, false, true, true, true, true, true, false, false, false, false, false, false, false, false, false, false, false, false, false, false, false, false, false, false, false, false]) rfl fun a hA => ?_
      refine apq hA 12 rfl (by kernel_rfl) (by intro c a d v w h; cases d <;> exact h) (fun w => (q_idxk (((2 * i) + btV l i)) Tryd.underlying22 ti24 rfl rfl (by first | omega | rfl) (Own.shp hO_t27) (by first | omega | (simp; done) | (simp; omega) | (rw [List.length_map]; assumption) | assumption | rfl | (simp [*]; done) | (simp [*]; omega)))) rfl (listed' := #[true, true, true, true, true, false, false, true, true, true, true, true, true, false, false, false, false, false, false, false, false, false, false, false, false, false, false, false, false, false, false, false]) rfl fun a hA => ?_
      refine aq hA 13 rfl (by kernel_rfl) (by intro c a d v w h; cases d <;> exact h) hS (fun w hH => (q_loadRA (i := ((2 * i) + btV l i)) Tryd.underlying24 rfl ti24 rfl (Own.rd0 hO_t27 hH 0 rfl) (by first | omega | (simp; done) | (simp; omega) | (rw [List.length_map]; assumption) | assumption | rfl | (simp [*]; done) | (simp [*]; omega)) _ (dc_at (by assumption) (by first | omega | (simp; done) | (simp; omega) | (rw [List.length_map]; assumption) | assumption | rfl | (simp [*]; done) | (simp [*]; omega))))) rfl (listed' := #[true, true, true, true, true, false, false, true, true, true, true, true, true, true, false, false, false, false, false, false, false, false, false, false, false, false, false, false, false, false, false, false]) rfl fun a hA => ?_
      refine al hA 5 rfl (by kernel_rfl) (lo_call fn39 rfl (refdigest_any _ (by first | rfl | assumption | exact sha_length _ | (simp; done) | (rw [List.length_map]; assumption) | (simp [*]; done) | omega))) rfl (listed' := #[true, true, true, true, true, true, false, true, true, true, true, true, true, true, false, false, false, false, false, false, false, false, false, false, false, false, false, false, false, false, false, false]) rfl ?_
      rintro _ w ⟨v_t69, N_t69, rfl, hO_t69, hC⟩
      replace hH := HS.call0 hH hC
      clear hC
      have hS' := hH.pick [1, 2, 3, 4] (Hs' := [_, _, _, _]) rfl
      replace hS := hS'; clear hS'
      refine ⟨fun _ _ => hS, ?_⟩
      intro a hA
      refine al hA 6 rfl (by kernel_rfl) (lo_call fn40 rfl (refsum_any (hg.mono0 hH) _ _ (Own.rd0 hO_t69 hH 0 rfl) (by first | omega | (simp; done) | (simp; omega) | (simp [*]; omega) | (simp at *; omega)))) rfl (listed' := #[true, true, true, true, true, true, true, true, true, true, true, true, true, true, false, false, false, false, false, false, false, false, false, false, false, false, false, false, false, false, false, false]) rfl ?_
      rintro _ w ⟨rfl, hC⟩
      replace hH := HS.call0 hH hC
      clear hC
      have hS' := hH.pick [1, 2, 3, 4] (Hs' := [_, _, _, _]) rfl
      replace hS := hS'; clear hS'
      refine ⟨fun _ _ => hS, ?_⟩
      intro a hA
      refine apq hA 14 rfl (by kernel_rfl) (by intro c a d v w h; cases d <;> exact h) (fun w => (q_neqA8 eqa24 rfl rfl rfl rfl (by first | rfl | assumption | exact sha_length _ | (simp; done) | (rw [List.length_map]; assumption) | (simp [*]; done) | omega) (by first | rfl | assumption | exact sha_length _ | (simp; done) | (rw [List.length_map]; assumption) | (simp [*]; done) | omega))) rfl (listed' := #[true, true, true, true, true, true, true, true, true, true, true, true, true, true, true, false, false, false, false, false, false, false, false, false, false, false, false, false, false, false, false, false]) rfl fun a hA => ?_
      replace hA := hA.decF (by rw [(sigV_at s l (i := i) (by omega)).1, pubV_at s (i := 2 * i + btV l i) (by omega)]; exact fun h => h rfl)
      refine apq hA 15 rfl (by kernel_rfl) (by intro c a d v w h; cases d <;> exact h) (fun w => (q_move rfl)) rfl (listed' := #[true, true, true, true, true, true, true, true, true, true, true, true, true, true, true, true, false, false, false, false, false, false, false, false, false, false, false, false, false, false, false, false]) rfl fun a hA => ?_
      refine apgq hA 16 rfl (by kernel_rfl) rfl rfl (by intro c a d v w h; cases d <;> exact h) (fun w => (q_move rfl)) rfl (listed' := #[true, true, true, true, true, true, true, true, true, true, true, true, true, true, true, true, true, false, false, false, false, false, false, false, false, false, false, false, false, false, false, false]) rfl fun a hA => ?_
      refine apgq hA 17 rfl (by kernel_rfl) rfl rfl (by intro c a d v w h; cases d <;> exact h) (fun w => (q_move rfl)) rfl (listed' := #[true, true, true, true, true, true, true, true, true, true, true, true, true, true, true, true, true, true, false, false, false, false, false, false, false, false, false, false, false, false, false, false]) rfl fun a hA => ?_
      refine apgq hA 18 rfl (by kernel_rfl) rfl rfl (by intro c a d v w h; cases d <;> exact h) (fun w => (q_mulI (m := 2) rfl rfl (by omega))) rfl (listed' := #[true, true, true, true, true, true, true, true, true, true, true, true, true, true, true, true, true, true, true, false, false, false, false, false, false, false, false, false, false, false, false, false]) rfl fun a hA => ?_
      refine apgq hA 19 rfl (by kernel_rfl) rfl rfl (by intro c a d v w h; cases d <;> exact h) (fun w => (q_addI (n := 1) rfl rfl (by omega))) rfl (listed' := #[true, true, true, true, true, true, true, true, true, true, true, true, true, true, true, true, true, true, true, true, false, false, false, false, false, false, false, false, false, false, false, false]) rfl fun a hA => ?_
      refine apgq hA 20 rfl (by kernel_rfl) rfl rfl (by intro c a d v w h; cases d <;> exact h) (fun w => (q_idxk (((2 * i) + 1)) Tryd.underlying22 ti24 rfl rfl (by first | omega | rfl) (Own.shp hO_t35) (by first | omega | (simp; done) | (simp; omega) | (rw [List.length_map]; assumption) | assumption | rfl | (simp [*]; done) | (simp [*]; omega)))) rfl (listed' := #[true, true, true, true, true, true, true, true, true, true, true, true, true, true, true, true, true, true, true, true, true, false, false, false, false, false, false, false, false, false, false, false]) rfl fun a hA => ?_
      refine agq hA 21 rfl (by kernel_rfl) rfl rfl (by intro c a d v w h; cases d <;> exact h) hS (fun w hH => (q_loadRA (i := ((2 * i) + 1)) Tryd.underlying24 rfl ti24 rfl (Own.rd0 hO_t35 hH 1 rfl) (by first | omega | (simp; done) | (simp; omega) | (rw [List.length_map]; assumption) | assumption | rfl | (simp [*]; done) | (simp [*]; omega)) _ (dc_at (by assumption) (by first | omega | (simp; done) | (simp; omega) | (rw [List.length_map]; assumption) | assumption | rfl | (simp [*]; done) | (simp [*]; omega))))) rfl (listed' := #[true, true, true, true, true, true, true, true, true, true, true, true, true, true, true, true, true, true, true, true, true, true, false, false, false, false, false, false, false, false, false, false]) rfl fun a hA => ?_
      refine apgq hA 22 rfl (by kernel_rfl) rfl rfl (by intro c a d v w h; cases d <;> exact h) (fun w => (q_move rfl)) rfl (listed' := #[true, true, true, true, true, true, true, true, true, true, true, true, true, true, true, true, true, true, true, true, true, true, true, false, false, false, false, false, false, false, false, false]) rfl fun a hA => ?_
      refine apgq hA 23 rfl (by kernel_rfl) rfl rfl (by intro c a d v w h; cases d <;> exact h) (fun w => (q_move rfl)) rfl (listed' := #[true, true, true, true, true, true, true, true, true, true, true, true, true, true, true, true, true, true, true, true, true, true, true, true, false, false, false, false, false, false, false, false]) rfl fun a hA => ?_
      refine apgq hA 24 rfl (by kernel_rfl) rfl rfl (by intro c a d v w h; cases d <;> exact h) (fun w => (q_mulI (m := 2) rfl rfl (by omega))) rfl (listed' := #[true, true, true, true, true, true, true, true, true, true, true, true, true, true, true, true, true, true, true, true, true, true, true, true, true, false, false, false, false, false, false, false]) rfl fun a hA => ?_
      refine apgq hA 25 rfl (by kernel_rfl) rfl rfl (by intro c a d v w h; cases d <;> exact h) (fun w => (q_addI (n := 1) rfl rfl (by omega))) rfl (listed' := #[true, true, true, true, true, true, true, true, true, true, true, true, true, true, true, true, true, true, true, true, true, true, true, true, true, true, false, false, false, false, false, false]) rfl fun a hA => ?_
      refine apgq hA 26 rfl (by kernel_rfl) rfl rfl (by intro c a d v w h; cases d <;> exact h) (fun w => (q_move rfl)) rfl (listed' := #[true, true, true, true, true, true, true, true, true, true, true, true, true, true, true, true, true, true, true, true, true, true, true, true, true, true, true, false, false, false, false, false]) rfl fun a hA => ?_
      refine apgq hA 27 rfl (by kernel_rfl) rfl rfl (by intro c a d v w h; cases d <;> exact h) (fun w => (q_subI rfl rfl (by omega))) rfl (listed' := #[true, true, true, true, true, true, true, true, true, true, true, true, true, true, true, true, true, true, true, true, true, true, true, true, true, true, true, true, false, false, false, false]) rfl fun a hA => ?_
      refine apgq hA 28 rfl (by kernel_rfl) rfl rfl (by intro c a d v w h; cases d <;> exact h) (fun w => (q_idxk ((((2 * i) + 1) - btV l i)) Tryd.underlying22 ti24 rfl rfl (by first | omega | rfl) (Own.shp hO_t27) (by first | omega | (simp; done) | (simp; omega) | (rw [List.length_map]; assumption) | assumption | rfl | (simp [*]; done) | (simp [*]; omega)))) rfl (listed' := #[true, true, true, true, true, true, true, true, true, true, true, true, true, true, true, true, true, true, true, true, true, true, true, true, true, true, true, true, true, false, false, false]) rfl fun a hA => ?_
      refine agq hA 29 rfl (by kernel_rfl) rfl rfl (by intro c a d v w h; cases d <;> exact h) hS (fun w hH => (q_loadRA (i := (((2 * i) + 1) - btV l i)) Tryd.underlying24 rfl ti24 rfl (Own.rd0 hO_t27 hH 0 rfl) (by first | omega | (simp; done) | (simp; omega) | (rw [List.length_map]; assumption) | assumption | rfl | (simp [*]; done) | (simp [*]; omega)) _ (dc_at (by assumption) (by first | omega | (simp; done) | (simp; omega) | (rw [List.length_map]; assumption) | assumption | rfl | (simp [*]; done) | (simp [*]; omega))))) rfl (listed' := #[true, true, true, true, true, true, true, true, true, true, true, true, true, true, true, true, true, true, true, true, true, true, true, true, true, true, true, true, true, true, false, false]) rfl fun a hA => ?_
      refine apgq hA 30 rfl (by kernel_rfl) rfl rfl (by intro c a d v w h; cases d <;> exact h) (fun w => (q_neqA8 eqa24 rfl rfl rfl rfl (by first | rfl | assumption | exact sha_length _ | (simp; done) | (rw [List.length_map]; assumption) | (simp [*]; done) | omega) (by first | rfl | assumption | exact sha_length _ | (simp; done) | (rw [List.length_map]; assumption) | (simp [*]; done) | omega))) rfl (listed' := #[true, true, true, true, true, true, true, true, true, true, true, true, true, true, true, true, true, true, true, true, true, true, true, true, true, true, true, true, true, true, true, false]) rfl fun a hA => ?_
      refine apq hA 31 rfl (by kernel_rfl) (by intro c a d v w h; cases d <;> exact h) (fun w => (q_pick_f rfl rfl)) rfl (listed' := #[true, true, true, true, true, true, true, true, true, true, true, true, true, true, true, true, true, true, true, true, true, true, true, true, true, true, true, true, true, true, true, true]) rfl fun a hA => ?_
      refine a_end (by kernel_rfl) ?_ _
      refine hK17 _ _ ?_
      clear hK17
      refine cond_d hA rfl (fun hnn => absurd hnn (by rw [(sigV_at s l (i := i) (by omega)).2, pubV_at s (i := 2 * i + 1 - btV l i) (by omega), show 2 * i + 1 - btV l i = 2 * i + (1 - btV l i) by omega]; exact fun h => h rfl)) (fun _ => ?_)
      refine wp_skip ?_
      refine block_normal ?_
      refine hK15 _ _ ?_
      clear hK15
      refine wp_region_lit ?_
      refine sq hA (q_move rfl) rfl fun a hA => ?_
      refine sq hA (q_addI (n := 1) rfl rfl (by omega)) rfl fun a hA => ?_
      refine sq hA (q_assign rfl) rfl fun a hA => ?_
      refine wpList_nil ?_
      replace hH := hH.pick [1, 2, 3, 4, 0] (Hs' := [_, _, _, _, _]) rfl
      replace hH := hH.pick [0, 1, 2, 3] (Hs' := [_, _, _, _]) rfl
      exact ⟨_, by omega, i + 1, hA.sub ⟨rfl, rfl, rfl, rfl, rfl, rfl, trivial⟩, hH, by omega, rfl⟩
    · skip
      obtain rfl : i = n := by omega
      refine wp_exit ?_
      refine then_exit ?_
      replace hH := HS.unfold [_, _, _] hNR12 hH
      refine then_exit ?_
      refine exit_here ?_
      refine hK10 _ _ ?_
      clear hK10
      replace hA := hA.sub (E' := [(6, _)]) ⟨rfl, trivial⟩
      refine wp_seq_k fun K18 hK18 => ?_
      refine wp_region_lit ?_
      refine sl hA (lo_call fn27 rfl (awake5_any (hg.mono0 hH))) rfl ?_
      rintro _ w ⟨rfl, hC⟩ a hA
      replace hH := HS.call0 hH hC
      clear hC
      refine sq hA (q_assign rfl) rfl fun a hA => ?_
      refine wpList_nil ?_
      refine hK18 _ _ ?_
      clear hK18
      replace hA := hA.sub (E' := [(6, _)]) ⟨rfl, trivial⟩
      refine wp_ret ?_
      refine post_ret hA (res_1 rfl hA rfl) ?_
      replace hH := hH.pick [] (Hs' := []) rfl
      exact ⟨_, rfl, rfl, hH⟩

theorem otsBits_bad {w0 : World} (hg : Gl 2 w0) (s : Bs) (hs : s.length = 32) (n : Int) (hn : ¬ R5 n) (u : Value) (l : Bs) (hu : By [] w0 u l) (hl : l.length ≤ 1048576) (u' : Value) (l' : Bs) (hu' : By [] w0 u' l') (hl' : l'.length ≤ 1048576) :
    Calls Tryd.prog 14 #[(.agg ((s).map B8).toArray), I n, u, u'] w0 (Ret fun r w' => r = .bool true ∧ HS [] w0 w' []) := by
  have hH := HS.start w0
  refine start (n := 91) (E := [(0, _), (1, _), (2, _), (3, _)]) Tryd.func14 rfl rfl rfl (args_look rfl) ?_
  intro a hA
  refine wp_seq_k fun K1 hK1 => ?_
  refine wp_region_lit ?_
  refine sl hA (lo_boxA hH rfl) rfl ?_
  clear hH; rintro _ w ⟨b_t4, rfl, hH⟩ a hA
  refine sq hA (q_assign rfl) rfl fun a hA => ?_
  refine wpList_nil ?_
  refine hK1 _ _ ?_
  clear hK1
  replace hA := hA.sub (E' := [(8, _), (4, _), (1, _), (2, _), (3, _)]) ⟨rfl, rfl, rfl, rfl, rfl, trivial⟩
  refine wp_seq_k fun K2 hK2 => ?_
  refine wp_seq_k fun K3 hK3 => ?_
  refine wp_region_lit ?_
  refine sq hA (q_move rfl) rfl fun a hA => ?_
  refine sq hA (q_len Tryd.underlying49 rfl (Rd.shp hu)) rfl fun a hA => ?_
  refine sq hA (q_gtrI (n := 500) rfl rfl) rfl fun a hA => ?_
  refine hA.spl (fun hs22 hA => ?_) (fun hs22 hA => ?_)
  · skip
    refine sq hA (q_move rfl) rfl fun a hA => ?_
    refine gs hA rfl rfl rfl rfl fun a hA => ?_
    refine gs hA rfl rfl rfl rfl fun a hA => ?_
    refine gs hA rfl rfl rfl rfl fun a hA => ?_
    refine sq hA (q_pick_t rfl rfl) rfl fun a hA => ?_
    refine sq hA (q_move rfl) rfl fun a hA => ?_
    refine gs hA rfl rfl rfl rfl fun a hA => ?_
    refine gs hA rfl rfl rfl rfl fun a hA => ?_
    refine gs hA rfl rfl rfl rfl fun a hA => ?_
    refine sq hA (q_pick_t rfl rfl) rfl fun a hA => ?_
    refine wpList_nil ?_
    refine hK3 _ _ ?_
    clear hK3
    replace hA := hA.sub (E' := [(32, _), (8, _), (4, _), (1, _), (2, _), (3, _)]) ⟨rfl, rfl, rfl, rfl, rfl, rfl, trivial⟩
    refine cond_t hA rfl ?_
    refine wp_seq_k fun K4 hK4 => ?_
    refine wp_region_lit ?_
    refine sl hA (lo_call fn27 rfl (awake5_any (hg.mono0 hH))) rfl ?_
    rintro _ w ⟨rfl, hC⟩ a hA
    replace hH := HS.call0 hH hC
    clear hC
    refine sq hA (q_assign rfl) rfl fun a hA => ?_
    refine wpList_nil ?_
    refine hK4 _ _ ?_
    clear hK4
    replace hA := hA.sub (E' := [(8, _), (4, _), (1, _), (2, _), (3, _)]) ⟨rfl, rfl, rfl, rfl, rfl, trivial⟩
    refine wp_ret ?_
    refine then_ret ?_
    refine post_ret hA (res_1 rfl hA rfl) ?_
    replace hH := hH.pick [] (Hs' := []) rfl
    exact ⟨_, rfl, rfl, hH⟩
  · skip
    refine sq hA (q_move rfl) rfl fun a hA => ?_
    refine gq hA rfl rfl (q_move rfl) rfl fun a hA => ?_
    refine gq hA rfl rfl (q_len Tryd.underlying49 rfl (Rd.shp hu')) rfl fun a hA => ?_
    refine gq hA rfl rfl (q_gtrI (n := 500) rfl rfl) rfl fun a hA => ?_
    refine sq hA (q_pick_f rfl rfl) rfl fun a hA => ?_
    refine hA.spl (fun hs27 hA => ?_) (fun hs27 hA => ?_)
    · skip
      refine sq hA (q_move rfl) rfl fun a hA => ?_
      refine gs hA rfl rfl rfl rfl fun a hA => ?_
      refine gs hA rfl rfl rfl rfl fun a hA => ?_
      refine gs hA rfl rfl rfl rfl fun a hA => ?_
      refine sq hA (q_pick_t rfl rfl) rfl fun a hA => ?_
      refine wpList_nil ?_
      refine hK3 _ _ ?_
      clear hK3
      replace hA := hA.sub (E' := [(32, _), (8, _), (4, _), (1, _), (2, _), (3, _)]) ⟨rfl, rfl, rfl, rfl, rfl, rfl, trivial⟩
      refine cond_t hA rfl ?_
      refine wp_seq_k fun K5 hK5 => ?_
      refine wp_region_lit ?_
      refine sl hA (lo_call fn27 rfl (awake5_any (hg.mono0 hH))) rfl ?_
      rintro _ w ⟨rfl, hC⟩ a hA
      replace hH := HS.call0 hH hC
      clear hC
      refine sq hA (q_assign rfl) rfl fun a hA => ?_
      refine wpList_nil ?_
      refine hK5 _ _ ?_
      clear hK5
      replace hA := hA.sub (E' := [(8, _), (4, _), (1, _), (2, _), (3, _)]) ⟨rfl, rfl, rfl, rfl, rfl, trivial⟩
      refine wp_ret ?_
      refine then_ret ?_
      refine post_ret hA (res_1 rfl hA rfl) ?_
      replace hH := hH.pick [] (Hs' := []) rfl
      exact ⟨_, rfl, rfl, hH⟩
    · skip
      refine sq hA (q_move rfl) rfl fun a hA => ?_
      refine gq hA rfl rfl (q_move rfl) rfl fun a hA => ?_
      refine gl hA rfl rfl (lo_call fn37 rfl (refright5_any _)) rfl ?_
      rintro _ w ⟨rfl, hC⟩ a hA
      replace hH := HS.call0 hH hC
      clear hC
      replace hA := hA.decF (by exact hn)
      refine gq hA rfl rfl (q_not rfl) rfl fun a hA => ?_
      refine sq hA (q_pick_f rfl rfl) rfl fun a hA => ?_
      refine wpList_nil ?_
      refine hK3 _ _ ?_
      clear hK3
      replace hA := hA.sub (E' := [(32, _), (8, _), (4, _), (1, _), (2, _), (3, _)]) ⟨rfl, rfl, rfl, rfl, rfl, rfl, trivial⟩
      refine cond_t hA rfl ?_
      refine wp_seq_k fun K6 hK6 => ?_
      refine wp_region_lit ?_
      refine sl hA (lo_call fn27 rfl (awake5_any (hg.mono0 hH))) rfl ?_
      rintro _ w ⟨rfl, hC⟩ a hA
      replace hH := HS.call0 hH hC
      clear hC
      refine sq hA (q_assign rfl) rfl fun a hA => ?_
      refine wpList_nil ?_
      refine hK6 _ _ ?_
      clear hK6
      replace hA := hA.sub (E' := [(8, _), (4, _), (1, _), (2, _), (3, _)]) ⟨rfl, rfl, rfl, rfl, rfl, trivial⟩
      refine wp_ret ?_
      refine then_ret ?_
      refine post_ret hA (res_1 rfl hA rfl) ?_
      replace hH := hH.pick [] (Hs' := []) rfl
      exact ⟨_, rfl, rfl, hH⟩

theorem otsBits_ok {w0 : World} (hg : Gl 2 w0) (s : Bs) (hs : s.length = 32) (n : Nat) (hn : R5 n) (u : Value) (l : Bs) (hu : By [] w0 u l) (hl : l.length ≤ 1048576) (u' : Value) (l' : Bs) (hu' : By [] w0 u' l') (hl' : l'.length ≤ 1048576) :
    Calls Tryd.prog 14 #[(.agg ((s).map B8).toArray), I n, u, u'] w0 (Ret fun r w' => r = .bool true ∧ HS [] w0 w' []) := by
  have hH := HS.start w0
  refine start (n := 91) (E := [(0, _), (1, _), (2, _), (3, _)]) Tryd.func14 rfl rfl rfl (args_look rfl) ?_
  intro a hA
  have hn1 := hn.1
  have hn2 := hn.2
  have hsl : (sha l).length = 32 := by simp
  have hsl' : (sha l').length = 32 := by simp
  have hd1 := sigV_dg s l n
  have hd2 := sigV_dg s l' n
  have hl1 : (sigV s l n).length = 2 * n := by simp
  have hl2 : (sigV s l' n).length = 2 * n := by simp
  refine wp_seq_k fun K1 hK1 => ?_
  refine wp_region_lit ?_
  refine sl hA (lo_boxA hH rfl) rfl ?_
  clear hH; rintro _ w ⟨b_t4, rfl, hH⟩ a hA
  refine sq hA (q_assign rfl) rfl fun a hA => ?_
  refine wpList_nil ?_
  refine hK1 _ _ ?_
  clear hK1
  replace hA := hA.sub (E' := [(8, _), (4, _), (1, _), (2, _), (3, _)]) ⟨rfl, rfl, rfl, rfl, rfl, trivial⟩
  refine wp_seq_k fun K2 hK2 => ?_
  refine wp_seq_k fun K3 hK3 => ?_
  refine wp_region_lit ?_
  refine sq hA (q_move rfl) rfl fun a hA => ?_
  refine sq hA (q_len Tryd.underlying49 rfl (Rd.shp hu)) rfl fun a hA => ?_
  refine sq hA (q_gtrI (n := 500) rfl rfl) rfl fun a hA => ?_
  refine hA.spl (fun hs22 hA => ?_) (fun hs22 hA => ?_)
  · skip
    refine sq hA (q_move rfl) rfl fun a hA => ?_
    refine gs hA rfl rfl rfl rfl fun a hA => ?_
    refine gs hA rfl rfl rfl rfl fun a hA => ?_
    refine gs hA rfl rfl rfl rfl fun a hA => ?_
    refine sq hA (q_pick_t rfl rfl) rfl fun a hA => ?_
    refine sq hA (q_move rfl) rfl fun a hA => ?_
    refine gs hA rfl rfl rfl rfl fun a hA => ?_
    refine gs hA rfl rfl rfl rfl fun a hA => ?_
    refine gs hA rfl rfl rfl rfl fun a hA => ?_
    refine sq hA (q_pick_t rfl rfl) rfl fun a hA => ?_
    refine wpList_nil ?_
    refine hK3 _ _ ?_
    clear hK3
    replace hA := hA.sub (E' := [(32, _), (8, _), (4, _), (1, _), (2, _), (3, _)]) ⟨rfl, rfl, rfl, rfl, rfl, rfl, trivial⟩
    refine cond_t hA rfl ?_
    refine wp_seq_k fun K4 hK4 => ?_
    refine wp_region_lit ?_
    refine sl hA (lo_call fn27 rfl (awake5_any (hg.mono0 hH))) rfl ?_
    rintro _ w ⟨rfl, hC⟩ a hA
    replace hH := HS.call0 hH hC
    clear hC
    refine sq hA (q_assign rfl) rfl fun a hA => ?_
    refine wpList_nil ?_
    refine hK4 _ _ ?_
    clear hK4
    replace hA := hA.sub (E' := [(8, _), (4, _), (1, _), (2, _), (3, _)]) ⟨rfl, rfl, rfl, rfl, rfl, trivial⟩
    refine wp_ret ?_
    refine then_ret ?_
    refine post_ret hA (res_1 rfl hA rfl) ?_
    replace hH := hH.pick [] (Hs' := []) rfl
    exact ⟨_, rfl, rfl, hH⟩
  · skip
    refine sq hA (q_move rfl) rfl fun a hA => ?_
    refine gq hA rfl rfl (q_move rfl) rfl fun a hA => ?_
    refine gq hA rfl rfl (q_len Tryd.underlying49 rfl (Rd.shp hu')) rfl fun a hA => ?_
    refine gq hA rfl rfl (q_gtrI (n := 500) rfl rfl) rfl fun a hA => ?_
    refine sq hA (q_pick_f rfl rfl) rfl fun a hA => ?_
    refine hA.spl (fun hs27 hA => ?_) (fun hs27 hA => ?_)
    · skip
      refine sq hA (q_move rfl) rfl fun a hA => ?_
      refine gs hA rfl rfl rfl rfl fun a hA => ?_
      refine gs hA rfl rfl rfl rfl fun a hA => ?_
      refine gs hA rfl rfl rfl rfl fun a hA => ?_
      refine sq hA (q_pick_t rfl rfl) rfl fun a hA => ?_
      refine wpList_nil ?_
      refine hK3 _ _ ?_
      clear hK3
      replace hA := hA.sub (E' := [(32, _), (8, _), (4, _), (1, _), (2, _), (3, _)]) ⟨rfl, rfl, rfl, rfl, rfl, rfl, trivial⟩
      refine cond_t hA rfl ?_
      refine wp_seq_k fun K5 hK5 => ?_
      refine wp_region_lit ?_
      refine sl hA (lo_call fn27 rfl (awake5_any (hg.mono0 hH))) rfl ?_
      rintro _ w ⟨rfl, hC⟩ a hA
      replace hH := HS.call0 hH hC
      clear hC
      refine sq hA (q_assign rfl) rfl fun a hA => ?_
      refine wpList_nil ?_
      refine hK5 _ _ ?_
      clear hK5
      replace hA := hA.sub (E' := [(8, _), (4, _), (1, _), (2, _), (3, _)]) ⟨rfl, rfl, rfl, rfl, rfl, trivial⟩
      refine wp_ret ?_
      refine then_ret ?_
      refine post_ret hA (res_1 rfl hA rfl) ?_
      replace hH := hH.pick [] (Hs' := []) rfl
      exact ⟨_, rfl, rfl, hH⟩
    · skip
      refine sq hA (q_move rfl) rfl fun a hA => ?_
      refine gq hA rfl rfl (q_move rfl) rfl fun a hA => ?_
      refine gl hA rfl rfl (lo_call fn37 rfl (refright5_any _)) rfl ?_
      rintro _ w ⟨rfl, hC⟩ a hA
      replace hH := HS.call0 hH hC
      clear hC
      replace hA := hA.decT (by exact hn)
      refine gq hA rfl rfl (q_not rfl) rfl fun a hA => ?_
      refine sq hA (q_pick_f rfl rfl) rfl fun a hA => ?_
      refine wpList_nil ?_
      refine hK3 _ _ ?_
      clear hK3
      replace hA := hA.sub (E' := [(32, _), (8, _), (4, _), (1, _), (2, _), (3, _)]) ⟨rfl, rfl, rfl, rfl, rfl, rfl, trivial⟩
      refine cond_f hA rfl ?_
      refine wp_skip ?_
      refine hK2 _ _ ?_
      clear hK2
      replace hA := hA.sub (E' := [(8, _), (4, _), (1, _), (2, _), (3, _)]) ⟨rfl, rfl, rfl, rfl, rfl, trivial⟩
      refine wp_seq_k fun K6 hK6 => ?_
      refine wp_region_lit ?_
      refine sq hA (q_move rfl) rfl fun a hA => ?_
      refine sl hA (lo_call fn40 rfl (refsum_any (hg.mono0 hH) _ _ (hH.rd hu) (by first | omega | (simp; done) | (simp; omega) | (simp [*]; omega) | (simp at *; omega)))) rfl ?_
      rintro _ w ⟨rfl, hC⟩ a hA
      replace hH := HS.call0 hH hC
      clear hC
      refine sl hA (lo_call fn39 rfl (refdigest_any _ (by first | rfl | assumption | exact sha_length _ | (simp; done) | (rw [List.length_map]; assumption) | (simp [*]; done) | omega))) rfl ?_
      rintro _ w ⟨v_t36, N_t36, rfl, hO_t36, hC⟩ a hA
      replace hH := HS.call0 hH hC
      clear hC
      refine sq hA (q_move rfl) rfl fun a hA => ?_
      refine sl hA (lo_call fn40 rfl (refsum_any (hg.mono0 hH) _ _ (hH.rd hu') (by first | omega | (simp; done) | (simp; omega) | (simp [*]; omega) | (simp at *; omega)))) rfl ?_
      rintro _ w ⟨rfl, hC⟩ a hA
      replace hH := HS.call0 hH hC
      clear hC
      refine sl hA (lo_call fn39 rfl (refdigest_any _ (by first | rfl | assumption | exact sha_length _ | (simp; done) | (rw [List.length_map]; assumption) | (simp [*]; done) | omega))) rfl ?_
      rintro _ w ⟨v_t39, N_t39, rfl, hO_t39, hC⟩ a hA
      replace hH := HS.call0 hH hC
      clear hC
      refine sq hA (q_assign rfl) rfl fun a hA => ?_
      refine sq hA (q_assign rfl) rfl fun a hA => ?_
      refine wpList_nil ?_
      refine hK6 _ _ ?_
      clear hK6
      replace hA := hA.sub (E' := [(10, _), (9, _), (8, _), (4, _), (1, _), (2, _), (3, _)]) ⟨rfl, rfl, rfl, rfl, rfl, rfl, rfl, trivial⟩
      refine wp_seq_k fun K7 hK7 => ?_
      refine wp_seq_k fun K8 hK8 => ?_
      refine wp_region_lit ?_
      refine sq hA (q_assign rfl) rfl fun a hA => ?_
      refine wpList_nil ?_
      refine hK8 _ _ ?_
      clear hK8
      refine wp_block ?_
      replace hH := hH.pick [1, 0, 2] (Hs' := [_, _, _]) rfl
      replace hH := HS.fold [_, _] [_] hH
      obtain ⟨NR9, hNR9, hH⟩ := hH
      refine wp_loop_ghost (fun gm a w => ∃ i : Nat, At 91 [(11, I i), (10, v_t39), (9, v_t36), (8, (.bool false)), (4, (.pointer (some ⟨b_t4, 0, none⟩))), (1, I n), (2, u), (3, u')] a ∧ HS [] w0 w ([N_t36, N_t39, NR9]) ∧ (i ≤ n) ∧ (∀ j, j < i → btV l j = btV l' j) ∧ gm = n - i) (n - (0)) ⟨0, hA.sub ⟨rfl, rfl, rfl, rfl, rfl, rfl, rfl, rfl, trivial⟩, hH, by omega, by exact fun j hj => absurd hj (Nat.not_lt_zero j), rfl⟩ ?_
      clear hA hH
      rintro gm a w ⟨i, hA, hH, hi, hb, rfl⟩
      refine wp_seq_k fun K10 hK10 => ?_
      refine wp_seq_k fun K11 hK11 => ?_
      refine wp_region_lit ?_
      refine sq hA (q_move rfl) rfl fun a hA => ?_
      refine sq hA (q_move rfl) rfl fun a hA => ?_
      refine sq hA (q_lssI rfl rfl) rfl fun a hA => ?_
      refine wpList_nil ?_
      refine hK11 _ _ ?_
      clear hK11
      refine cond_d hA rfl (fun hc42 => ?_) (fun hc42 => ?_)
      · skip
        refine wp_skip ?_
        refine hK10 _ _ ?_
        clear hK10
        refine wp_seq_k fun K12 hK12 => ?_
        refine wp_block ?_
        refine wp_seq_k fun K13 hK13 => ?_
        refine wp_region_lit ?_
        refine sq hA (q_move rfl) rfl fun a hA => ?_
        refine sq hA (q_move rfl) rfl fun a hA => ?_
        refine sl hA (lo_call fn41 rfl (refbit_any _ _ _ (Own.rd0 hO_t36 hH 0 rfl) (by first | omega | (simp; done) | (simp; omega) | (simp [*]; omega) | (simp at *; omega)) (by first | omega | (simp; done) | (simp; omega) | (simp [*]; omega) | (simp at *; omega)))) rfl ?_
        rintro _ w ⟨rfl, hC⟩ a hA
        replace hH := HS.call0 hH hC
        clear hC
        refine sq hA (q_move rfl) rfl fun a hA => ?_
        refine sq hA (q_extract rfl rfl) rfl fun a hA => ?_
        refine sq hA (q_extract rfl rfl) rfl fun a hA => ?_
        refine sq hA (q_assign rfl) rfl fun a hA => ?_
        refine sq hA (q_assign rfl) rfl fun a hA => ?_
        refine wpList_nil ?_
        refine hK13 _ _ ?_
        clear hK13
        replace hA := hA.sub (E' := [(12, _), (50, _), (49, _), (45, _), (48, _), (47, _), (46, _), (42, _), (41, _), (40, _), (11, _), (10, _), (9, _), (8, _), (4, _), (1, _), (2, _), (3, _)]) ⟨rfl, rfl, rfl, rfl, rfl, rfl, rfl, rfl, rfl, rfl, rfl, rfl, rfl, rfl, rfl, rfl, rfl, rfl, trivial⟩
        refine wp_seq_k fun K14 hK14 => ?_
        refine wp_region_lit ?_
        refine sq hA (q_move rfl) rfl fun a hA => ?_
        refine sq hA (q_move rfl) rfl fun a hA => ?_
        refine sl hA (lo_call fn41 rfl (refbit_any _ _ _ (Own.rd0 hO_t39 hH 1 rfl) (by first | omega | (simp; done) | (simp; omega) | (simp [*]; omega) | (simp at *; omega)) (by first | omega | (simp; done) | (simp; omega) | (simp [*]; omega) | (simp at *; omega)))) rfl ?_
        rintro _ w ⟨rfl, hC⟩ a hA
        replace hH := HS.call0 hH hC
        clear hC
        refine sq hA (q_move rfl) rfl fun a hA => ?_
        refine sq hA (q_extract rfl rfl) rfl fun a hA => ?_
        refine sq hA (q_extract rfl rfl) rfl fun a hA => ?_
        refine sq hA (q_assign rfl) rfl fun a hA => ?_
        refine sq hA (q_assign rfl) rfl fun a hA => ?_
        refine wpList_nil ?_
        refine hK14 _ _ ?_
        clear hK14
        replace hA := hA.sub (E' := [(14, _), (56, _), (55, _), (51, _), (54, _), (53, _), (52, _), (12, _), (50, _), (49, _), (45, _), (48, _), (47, _), (46, _), (42, _), (41, _), (40, _), (11, _), (10, _), (9, _), (8, _), (4, _), (1, _), (2, _), (3, _)]) ⟨rfl, rfl, rfl, rfl, rfl, rfl, rfl, rfl, rfl, rfl, rfl, rfl, rfl, rfl, rfl, rfl, rfl, rfl, rfl, rfl, rfl, rfl, rfl, rfl, rfl, trivial⟩
        refine wp_seq_k fun K15 hK15 => ?_
        refine wp_region_lit ?_
        refine sq hA (q_move rfl) rfl fun a hA => ?_
        refine sq hA (q_move rfl) rfl fun a hA => ?_
        refine sq hA (q_neqI rfl rfl) rfl fun a hA => ?_
        refine wpList_nil ?_
        refine hK15 _ _ ?_
        clear hK15
        refine cond_d hA rfl (fun hc59 => ?_) (fun hc59 => ?_)
        · skip
          refine wp_seq_k fun K16 hK16 => ?_
          refine wp_region_lit ?_
          refine sl hA (lo_call fn27 rfl (awake5_any (hg.mono0 hH))) rfl ?_
          rintro _ w ⟨rfl, hC⟩ a hA
          replace hH := HS.call0 hH hC
          clear hC
          refine sq hA (q_assign rfl) rfl fun a hA => ?_
          refine wpList_nil ?_
          refine hK16 _ _ ?_
          clear hK16
          refine wp_ret ?_
          refine block_ret ?_
          refine then_ret ?_
          refine then_ret ?_
          refine block_ret ?_
          refine then_ret ?_
          replace hH := HS.unfold [_, _] hNR9 hH
          refine post_ret hA (res_1 rfl hA rfl) ?_
          replace hH := hH.pick [] (Hs' := []) rfl
          exact ⟨_, rfl, rfl, hH⟩
        · skip
          refine wp_skip ?_
          refine block_normal ?_
          refine hK12 _ _ ?_
          clear hK12
          refine wp_region_lit ?_
          refine sq hA (q_move rfl) rfl fun a hA => ?_
          refine sq hA (q_addI (n := 1) rfl rfl (by omega)) rfl fun a hA => ?_
          refine sq hA (q_assign rfl) rfl fun a hA => ?_
          refine wpList_nil ?_
          exact ⟨_, by omega, i + 1, hA.sub ⟨rfl, rfl, rfl, rfl, rfl, rfl, rfl, rfl, trivial⟩, hH, by omega, by (intro j hj; rcases Nat.lt_or_ge j i with h | h; exact hb j h; obtain rfl : j = i := (by omega); exact_mod_cast Classical.byContradiction hc59), rfl⟩
      · skip
        obtain rfl : n = i := by omega
        refine wp_exit ?_
        refine then_exit ?_
        replace hH := HS.unfold [_, _] hNR9 hH
        refine then_exit ?_
        refine exit_here ?_
        refine hK7 _ _ ?_
        clear hK7
        replace hA := hA.sub (E' := [(8, _), (4, _), (1, _), (2, _), (3, _)]) ⟨rfl, rfl, rfl, rfl, rfl, trivial⟩
        refine wp_seq_k fun K17 hK17 => ?_
        refine any_go mixed (fun j => !(Nat.beq j 4)) hH ?_
        clear hH; intro w hH
        have hS := hH
        change wpK _ _ _ _ _ _ 10 #[false, false, false, false, false, false, false, false, false, false] _ _
        refine aq hA 0 rfl (by kernel_rfl) (by intro c a d v w h; cases d <;> exact h) hS (fun w hH => (q_loadW hH 2 rfl Tryd.underlying24 rfl ti24 rfl (by first | omega | (simp; done) | (simp; omega) | (rw [List.length_map]; assumption) | assumption | rfl | (simp [*]; done) | (simp [*]; omega)))) rfl (listed' := #[true, false, false, false, false, false, false, false, false, false]) rfl fun a hA => ?_
        refine apq hA 1 rfl (by kernel_rfl) (by intro c a d v w h; cases d <;> exact h) (fun w => (q_move rfl)) rfl (listed' := #[true, true, false, false, false, false, false, false, false, false]) rfl fun a hA => ?_
        refine apq hA 2 rfl (by kernel_rfl) (by intro c a d v w h; cases d <;> exact h) (fun w => (q_move rfl)) rfl (listed' := #[true, true, true, false, false, false, false, false, false, false]) rfl fun a hA => ?_
        refine al hA 3 rfl (by kernel_rfl) (lo_call fn33 rfl (own5_any _ _ (hH.rd hu) (by first | omega | (simp; done) | (simp; omega) | (simp [*]; omega) | (simp at *; omega)))) rfl (listed' := #[true, true, true, true, false, false, false, false, false, false]) rfl ?_
        rintro _ w ⟨v_t65, N_t65, rfl, hO_t65, hC⟩
        replace hH := HS.call0 hH hC
        clear hC
        have hS' := hH.pick [1, 2, 3] (Hs' := [_, _, _]) rfl
        replace hS := hS'; clear hS'
        refine ⟨fun _ _ => hS, ?_⟩
        intro a hA
        refine al hA 4 rfl (by kernel_rfl) (lo_call fn32 rfl (sign_any (hg.mono0 hH) s hs n hn _ _ (Own.rd0 hO_t65 hH 0 rfl) (by first | omega | (simp; omega)))) rfl (listed' := #[true, true, true, true, true, false, false, false, false, false]) rfl ?_
        rintro _ w ⟨v_t66, N_t66, rfl, hO_t66, hC⟩
        replace hH := HS.call0 hH hC
        clear hC
        refine ⟨fun _ h => absurd h (by decide), ?_⟩
        intro a hA
        refine apq hA 5 rfl (by kernel_rfl) (by intro c a d v w h; cases d <;> exact h) (fun w => (q_move rfl)) rfl (listed' := #[true, true, true, true, true, true, false, false, false, false]) rfl fun a hA => ?_
        refine apq hA 6 rfl (by kernel_rfl) (by intro c a d v w h; cases d <;> exact h) (fun w => (q_extract rfl rfl)) rfl (listed' := #[true, true, true, true, true, true, true, false, false, false]) rfl fun a hA => ?_
        refine apq hA 7 rfl (by kernel_rfl) (by intro c a d v w h; cases d <;> exact h) (fun w => (q_extract rfl rfl)) rfl (listed' := #[true, true, true, true, true, true, true, true, false, false]) rfl fun a hA => ?_
        refine apq hA 8 rfl (by kernel_rfl) (by intro c a d v w h; cases d <;> exact h) (fun w => (q_assign rfl)) rfl (listed' := #[true, true, true, true, true, true, true, true, true, false]) rfl fun a hA => ?_
        refine apq hA 9 rfl (by kernel_rfl) (by intro c a d v w h; cases d <;> exact h) (fun w => (q_assign rfl)) rfl (listed' := #[true, true, true, true, true, true, true, true, true, true]) rfl fun a hA => ?_
        refine a_end (by kernel_rfl) ?_ _
        refine hK17 _ _ ?_
        clear hK17
        replace hA := hA.sub (E' := [(17, _), (16, _), (8, _), (4, _), (1, _), (3, _)]) ⟨rfl, rfl, rfl, rfl, rfl, rfl, trivial⟩
        refine wp_seq_k fun K18 hK18 => ?_
        refine any_go mixed (fun j => !(Nat.beq j 4)) hH ?_
        clear hH; intro w hH
        have hS := hH
        change wpK _ _ _ _ _ _ 10 #[false, false, false, false, false, false, false, false, false, false] _ _
        refine aq hA 0 rfl (by kernel_rfl) (by intro c a d v w h; cases d <;> exact h) hS (fun w hH => (q_loadW hH 4 rfl Tryd.underlying24 rfl ti24 rfl (by first | omega | (simp; done) | (simp; omega) | (rw [List.length_map]; assumption) | assumption | rfl | (simp [*]; done) | (simp [*]; omega)))) rfl (listed' := #[true, false, false, false, false, false, false, false, false, false]) rfl fun a hA => ?_
        refine apq hA 1 rfl (by kernel_rfl) (by intro c a d v w h; cases d <;> exact h) (fun w => (q_move rfl)) rfl (listed' := #[true, true, false, false, false, false, false, false, false, false]) rfl fun a hA => ?_
        refine apq hA 2 rfl (by kernel_rfl) (by intro c a d v w h; cases d <;> exact h) (fun w => (q_move rfl)) rfl (listed' := #[true, true, true, false, false, false, false, false, false, false]) rfl fun a hA => ?_
        refine al hA 3 rfl (by kernel_rfl) (lo_call fn33 rfl (own5_any _ _ (hH.rd hu') (by first | omega | (simp; done) | (simp; omega) | (simp [*]; omega) | (simp at *; omega)))) rfl (listed' := #[true, true, true, true, false, false, false, false, false, false]) rfl ?_
        rintro _ w ⟨v_t73, N_t73, rfl, hO_t73, hC⟩
        replace hH := HS.call0 hH hC
        clear hC
        have hS' := hH.pick [1, 2, 3, 4, 5] (Hs' := [_, _, _, _, _]) rfl
        replace hS := hS'; clear hS'
        refine ⟨fun _ _ => hS, ?_⟩
        intro a hA
        refine al hA 4 rfl (by kernel_rfl) (lo_call fn32 rfl (sign_any (hg.mono0 hH) s hs n hn _ _ (Own.rd0 hO_t73 hH 0 rfl) (by first | omega | (simp; omega)))) rfl (listed' := #[true, true, true, true, true, false, false, false, false, false]) rfl ?_
        rintro _ w ⟨v_t74, N_t74, rfl, hO_t74, hC⟩
        replace hH := HS.call0 hH hC
        clear hC
        refine ⟨fun _ h => absurd h (by decide), ?_⟩
        intro a hA
        refine apq hA 5 rfl (by kernel_rfl) (by intro c a d v w h; cases d <;> exact h) (fun w => (q_move rfl)) rfl (listed' := #[true, true, true, true, true, true, false, false, false, false]) rfl fun a hA => ?_
        refine apq hA 6 rfl (by kernel_rfl) (by intro c a d v w h; cases d <;> exact h) (fun w => (q_extract rfl rfl)) rfl (listed' := #[true, true, true, true, true, true, true, false, false, false]) rfl fun a hA => ?_
        refine apq hA 7 rfl (by kernel_rfl) (by intro c a d v w h; cases d <;> exact h) (fun w => (q_extract rfl rfl)) rfl (listed' := #[true, true, true, true, true, true, true, true, false, false]) rfl fun a hA => ?_
        refine apq hA 8 rfl (by kernel_rfl) (by intro c a d v w h; cases d <;> exact h) (fun w => (q_assign rfl)) rfl (listed' := #[true, true, true, true, true, true, true, true, true, false]) rfl fun a hA => ?_
        refine apq hA 9 rfl (by kernel_rfl) (by intro c a d v w h; cases d <;> exact h) (fun w => (q_assign rfl)) rfl (listed' := #[true, true, true, true, true, true, true, true, true, true]) rfl fun a hA => ?_
        refine a_end (by kernel_rfl) ?_ _
        refine hK18 _ _ ?_
        clear hK18
        replace hA := hA.sub (E' := [(19, _), (18, _), (17, _), (16, _), (8, _)]) ⟨rfl, rfl, rfl, rfl, rfl, trivial⟩
        refine wp_seq_k fun K19 hK19 => ?_
        refine wp_region_lit ?_
        refine sq hA (q_move rfl) rfl fun a hA => ?_
        refine sq hA (q_eqlI (n := 0) rfl rfl) rfl fun a hA => ?_
        replace hA := hA.decT (by first | rfl | omega | assumption | (simp; done) | (simp [*]; done))
        refine sq hA (q_move rfl) rfl fun a hA => ?_
        refine gq hA rfl rfl (q_move rfl) rfl fun a hA => ?_
        refine gq hA rfl rfl (q_eqlI (n := 0) rfl rfl) rfl fun a hA => ?_
        refine sq hA (q_pick_t rfl rfl) rfl fun a hA => ?_
        replace hA := hA.decT (by first | rfl | omega | assumption | (simp; done) | (simp [*]; done))
        refine sq hA (q_move rfl) rfl fun a hA => ?_
        refine gq hA rfl rfl (q_move rfl) rfl fun a hA => ?_
        refine gq hA rfl rfl (q_move rfl) rfl fun a hA => ?_
        refine gl hA rfl rfl (lo_call fn24 rfl (sameD_any _ _ _ _ (by assumption) (by assumption) (Own.rd0 hO_t66 hH 2 rfl) (Own.rd0 hO_t74 hH 0 rfl) (by first | omega | (simp; done) | (simp; omega) | (simp [*]; omega) | (simp at *; omega)) (by first | omega | (simp; done) | (simp; omega) | (simp [*]; omega) | (simp at *; omega)))) rfl ?_
        rintro _ w ⟨rfl, hC⟩ a hA
        replace hH := HS.call0 hH hC
        clear hC
        refine sq hA (q_pick_t rfl rfl) rfl fun a hA => ?_
        replace hA := hA.decT (by exact sigV_same s (fun i hi => hb i hi) (Nat.le_refl _))
        refine sq hA (q_move rfl) rfl fun a hA => ?_
        refine gl hA rfl rfl (lo_call fn27 rfl (awake5_any (hg.mono0 hH))) rfl ?_
        rintro _ w ⟨rfl, hC⟩ a hA
        replace hH := HS.call0 hH hC
        clear hC
        refine sq hA (q_pick_t rfl rfl) rfl fun a hA => ?_
        refine sq hA (q_assign rfl) rfl fun a hA => ?_
        refine wpList_nil ?_
        refine hK19 _ _ ?_
        clear hK19
        replace hA := hA.sub (E' := [(8, _)]) ⟨rfl, trivial⟩
        refine wp_ret ?_
        refine post_ret hA (res_1 rfl hA rfl) ?_
        replace hH := hH.pick [] (Hs' := []) rfl
        exact ⟨_, rfl, rfl, hH⟩

theorem otsShows_any {w0 : World} (hg : Gl 2 w0)  (s : Bs) (hs : s.length = 32) (n : Int) (u : Value) (l : Bs) (hu : By [] w0 u l) (hl : l.length ≤ 1048576) : Calls Tryd.prog 13 #[(.agg ((s).map B8).toArray), I n, u] w0 (Ret fun r w' => r = .bool true ∧ HS [] w0 w' []) := by
  by_cases h : R5 n
  · obtain ⟨m, rfl⟩ : ∃ m : Nat, n = m := ⟨n.toNat, by have := h.1; omega⟩
    exact otsShows_ok hg s hs m h u l hu hl
  · exact otsShows_bad hg s hs n h u l hu hl
theorem otsBits_any {w0 : World} (hg : Gl 2 w0)  (s : Bs) (hs : s.length = 32) (n : Int) (u : Value) (l : Bs) (hu : By [] w0 u l) (hl : l.length ≤ 1048576) (u' : Value) (l' : Bs) (hu' : By [] w0 u' l') (hl' : l'.length ≤ 1048576) : Calls Tryd.prog 14 #[(.agg ((s).map B8).toArray), I n, u, u'] w0 (Ret fun r w' => r = .bool true ∧ HS [] w0 w' []) := by
  by_cases h : R5 n
  · obtain ⟨m, rfl⟩ : ∃ m : Nat, n = m := ⟨n.toNat, by have := h.1; omega⟩
    exact otsBits_ok hg s hs m h u l hu hl u' l' hu' hl'
  · exact otsBits_bad hg s hs n h u l hu hl u' l' hu' hl'
end Go.Proofs.YtommjkbbgmkdoaaDoor
