/- Layer 7 (keys): awake. -/
import Derived.Test.YtipjpbfledddaaaDoorHc
import Derived.Test.YtipjpbfledddaaaDoorHe
namespace Go.Proofs.YtipjpbfledddaaaDoor
open Go
set_option linter.unusedVariables false
set_option linter.unusedSimpArgs false
set_option maxRecDepth 100000

theorem own7_any {w0 : World} (v : Value) (l : Bs) (hr : By [] w0 v l) (hl : l.length ≤ 1048576) :
    Calls Tryd.prog 14 #[v] w0 (Ret fun r w' => ∃ v' N, v' = r ∧ Ow B8 5 v' l N ∧ HS [] w0 w' [N]) := by
  have hH := HS.start w0
  refine start (n := 6) (E := [(0, _)]) Tryd.func14 rfl rfl rfl (args_look rfl) ?_
  intro a hA
  refine wp_seq_k fun K1 hK1 => ?_
  refine wp_region_lit ?_
  refine sq hA (q_assign rfl) rfl fun a hA => ?_
  refine wpList_nil ?_
  refine hK1 _ _ ?_
  clear hK1
  refine wp_seq_k fun K2 hK2 => ?_
  refine wp_region_lit ?_
  refine sl hA (lo_bs (f := B8) (e := 5) ([]) hH rfl rfl (fun w => by kernel_rfl)) rfl ?_
  clear hH; rintro v_t3 w ⟨N_t3, hO_t3, hH⟩ a hA
  refine sq hA (q_move rfl) rfl fun a hA => ?_
  refine sl hA (lo_appm hH Tryd.underlying24 Tryd.underlying24 (.inl rfl) ti5 rfl rfl rfl hO_t3 (Rd.src (hH.rd hr)) (one_B8 _) (by first | omega | (simp; done) | (simp; omega)) (by first | omega | (simp; done) | (simp; omega))) rfl ?_
  clear hH; rintro v_t5 w ⟨N_t5, hO_t5, hH⟩ a hA
  refine sq hA (q_assign rfl) rfl fun a hA => ?_
  refine wpList_nil ?_
  refine hK2 _ _ ?_
  clear hK2
  replace hA := hA.sub (E' := [(2, _)]) ⟨rfl, trivial⟩
  refine wp_ret ?_
  refine post_ret hA (res_1 rfl hA rfl) ?_
  exact ⟨_, rfl, v_t5, N_t5, rfl, hO_t5, hH⟩

theorem great7_any {w0 : World} (n h : Int) :
    Calls Tryd.prog 11 #[I n, I h] w0 (Ret fun r w' => r = .bool (decide (G7 n h)) ∧ HS [] w0 w' []) := by
  have hH := HS.start w0
  refine start (n := 19) (E := [(0, _), (1, _)]) Tryd.func11 rfl rfl rfl (args_look rfl) ?_
  intro a hA
  refine wp_seq_k fun K1 hK1 => ?_
  refine wp_region_lit ?_
  refine sq hA (q_assign rfl) rfl fun a hA => ?_
  refine wpList_nil ?_
  refine hK1 _ _ ?_
  clear hK1
  refine wp_seq_k fun K2 hK2 => ?_
  refine wp_region_lit ?_
  refine sq hA (q_move rfl) rfl fun a hA => ?_
  refine sq hA (q_gtrI (n := 24) rfl rfl) rfl fun a hA => ?_
  refine hA.spl (fun hs6 hA => ?_) (fun hs6 hA => ?_)
  · skip
    refine sq hA (q_move rfl) rfl fun a hA => ?_
    refine gq hA rfl rfl (q_move rfl) rfl fun a hA => ?_
    refine gq hA rfl rfl (q_leqI (n := 256) rfl rfl) rfl fun a hA => ?_
    refine sq hA (q_pick_t rfl rfl) rfl fun a hA => ?_
    refine hA.spl (fun hs10 hA => ?_) (fun hs10 hA => ?_)
    · skip
      refine sq hA (q_move rfl) rfl fun a hA => ?_
      refine gs hA rfl rfl rfl rfl fun a hA => ?_
      refine gs hA rfl rfl rfl rfl fun a hA => ?_
      refine gsU hA rfl rfl rfl rfl fun a hA => ?_
      refine gs0U hA rfl rfl rfl fun a hA => ?_
      refine gs0U hA rfl rfl rfl fun a hA => ?_
      refine gs hA rfl rfl rfl rfl fun a hA => ?_
      refine sq hA (q_pick_t rfl rfl) rfl fun a hA => ?_
      refine sq hA (q_assign rfl) rfl fun a hA => ?_
      refine wpList_nil ?_
      refine hK2 _ _ ?_
      clear hK2
      replace hA := hA.sub (E' := [(4, _)]) ⟨rfl, trivial⟩
      refine wp_ret ?_
      refine post_ret hA (res_1 rfl hA rfl) ?_
      exact ⟨_, rfl, by congr 1; symm; first | exact decide_eq_false (by unfold G7; omega) | exact decide_eq_true (by unfold G7; omega) | exact decide_eq_decide.2 (by unfold G7; omega), hH⟩
    · skip
      refine sq hA (q_move rfl) rfl fun a hA => ?_
      refine gq hA rfl rfl (q_move rfl) rfl fun a hA => ?_
      refine gq hA rfl rfl (q_gtrI (n := 3) rfl rfl) rfl fun a hA => ?_
      refine hA.spl (fun hs13 hA => ?_) (fun hs13 hA => ?_)
      · skip
        refine gq hA rfl rfl (q_move rfl) rfl fun a hA => ?_
        refine gq hA rfl rfl (q_move rfl) rfl fun a hA => ?_
        refine gq hA rfl rfl (q_leqI (n := 6) rfl rfl) rfl fun a hA => ?_
        refine gq hA rfl rfl (q_pick_t rfl rfl) rfl fun a hA => ?_
        refine sq hA (q_pick_f rfl rfl) rfl fun a hA => ?_
        refine sq hA (q_assign rfl) rfl fun a hA => ?_
        refine wpList_nil ?_
        refine hK2 _ _ ?_
        clear hK2
        replace hA := hA.sub (E' := [(4, _)]) ⟨rfl, trivial⟩
        refine wp_ret ?_
        refine post_ret hA (res_1 rfl hA rfl) ?_
        exact ⟨_, rfl, by congr 1; symm; first | exact decide_eq_false (by unfold G7; omega) | exact decide_eq_true (by unfold G7; omega) | exact decide_eq_decide.2 (by unfold G7; omega), hH⟩
      · skip
        refine gq hA rfl rfl (q_move rfl) rfl fun a hA => ?_
        refine gs hA rfl rfl rfl rfl fun a hA => ?_
        refine gs hA rfl rfl rfl rfl fun a hA => ?_
        refine gq hA rfl rfl (q_pick_f rfl rfl) rfl fun a hA => ?_
        refine sq hA (q_pick_f rfl rfl) rfl fun a hA => ?_
        refine sq hA (q_assign rfl) rfl fun a hA => ?_
        refine wpList_nil ?_
        refine hK2 _ _ ?_
        clear hK2
        replace hA := hA.sub (E' := [(4, _)]) ⟨rfl, trivial⟩
        refine wp_ret ?_
        refine post_ret hA (res_1 rfl hA rfl) ?_
        exact ⟨_, rfl, by congr 1; symm; first | exact decide_eq_false (by unfold G7; omega) | exact decide_eq_true (by unfold G7; omega) | exact decide_eq_decide.2 (by unfold G7; omega), hH⟩
  · skip
    refine sq hA (q_move rfl) rfl fun a hA => ?_
    refine gs hA rfl rfl rfl rfl fun a hA => ?_
    refine gs hA rfl rfl rfl rfl fun a hA => ?_
    refine sq hA (q_pick_f rfl rfl) rfl fun a hA => ?_
    refine sq hA (q_move rfl) rfl fun a hA => ?_
    refine gq hA rfl rfl (q_move rfl) rfl fun a hA => ?_
    refine gq hA rfl rfl (q_gtrI (n := 3) rfl rfl) rfl fun a hA => ?_
    refine hA.spl (fun hs13 hA => ?_) (fun hs13 hA => ?_)
    · skip
      refine gq hA rfl rfl (q_move rfl) rfl fun a hA => ?_
      refine gq hA rfl rfl (q_move rfl) rfl fun a hA => ?_
      refine gq hA rfl rfl (q_leqI (n := 6) rfl rfl) rfl fun a hA => ?_
      refine gq hA rfl rfl (q_pick_t rfl rfl) rfl fun a hA => ?_
      refine sq hA (q_pick_f rfl rfl) rfl fun a hA => ?_
      refine sq hA (q_assign rfl) rfl fun a hA => ?_
      refine wpList_nil ?_
      refine hK2 _ _ ?_
      clear hK2
      replace hA := hA.sub (E' := [(4, _)]) ⟨rfl, trivial⟩
      refine wp_ret ?_
      refine post_ret hA (res_1 rfl hA rfl) ?_
      exact ⟨_, rfl, by congr 1; symm; first | exact decide_eq_false (by unfold G7; omega) | exact decide_eq_true (by unfold G7; omega) | exact decide_eq_decide.2 (by unfold G7; omega), hH⟩
    · skip
      refine gq hA rfl rfl (q_move rfl) rfl fun a hA => ?_
      refine gs hA rfl rfl rfl rfl fun a hA => ?_
      refine gs hA rfl rfl rfl rfl fun a hA => ?_
      refine gq hA rfl rfl (q_pick_f rfl rfl) rfl fun a hA => ?_
      refine sq hA (q_pick_f rfl rfl) rfl fun a hA => ?_
      refine sq hA (q_assign rfl) rfl fun a hA => ?_
      refine wpList_nil ?_
      refine hK2 _ _ ?_
      clear hK2
      replace hA := hA.sub (E' := [(4, _)]) ⟨rfl, trivial⟩
      refine wp_ret ?_
      refine post_ret hA (res_1 rfl hA rfl) ?_
      exact ⟨_, rfl, by congr 1; symm; first | exact decide_eq_false (by unfold G7; omega) | exact decide_eq_true (by unfold G7; omega) | exact decide_eq_decide.2 (by unfold G7; omega), hH⟩

theorem awake7_any {w0 : World} {lv : Nat} (hg : Gl lv w0)  :
    Calls Tryd.prog 12 #[] w0 (Ret fun r w' => r = .bool true ∧ HS [] w0 w' []) := by
  have hH := HS.start w0
  refine start (n := 41) (E := []) Tryd.func12 rfl rfl rfl (args_look rfl) ?_
  intro a hA
  obtain ⟨z, hz⟩ : ∃ z, z = (List.replicate 32 0#8) := ⟨_, rfl⟩
  have hsd : z.length = 32 := by rw [hz]; simp
  have hn : R7 ((1 : Nat) : Int) ((0 : Nat) : Int) := by unfold R7 R5; omega
  have hPl := pubK_length z 1 0
  refine wp_seq_k fun K1 hK1 => ?_
  refine wp_region_lit ?_
  refine sq hA (q_assign rfl) rfl fun a hA => ?_
  refine wpList_nil ?_
  refine hK1 _ _ ?_
  clear hK1
  refine wp_seq_k fun K2 hK2 => ?_
  refine wp_region_lit ?_
  refine sq hA (q_build (v := (.agg ((List.replicate 32 0#8).map B8).toArray)) (vs := []) rfl (fun w => by kernel_rfl)) rfl fun a hA => ?_
  rw [show ((.agg ((List.replicate 32 0#8).map B8).toArray) : Value) = (.agg ((z).map B8).toArray) from by rw [hz]] at hA
  refine sl hA (lo_call fn17 rfl (new7_any (hg.mono0 hH) z hsd 1 0 hn)) rfl ?_
  rintro _ w ⟨b_k, b_s, v_l, N_l, rfl, hO_l, hC⟩ a hA
  replace hH := HS.call0 hH hC
  clear hC
  have hshp : Shp v_l (2 ^ (0)) := by have := Own.shp hO_l; rwa [leavesK_length] at this
  refine sq hA (q_move rfl) rfl fun a hA => ?_
  refine sq hA (q_extract rfl rfl) rfl fun a hA => ?_
  refine sq hA (q_extract rfl rfl) rfl fun a hA => ?_
  refine sq hA (q_assign rfl) rfl fun a hA => ?_
  refine sq hA (q_assign rfl) rfl fun a hA => ?_
  refine wpList_nil ?_
  refine hK2 _ _ ?_
  clear hK2
  replace hA := hA.sub (E' := [(2, _), (1, _), (0, _)]) ⟨rfl, rfl, rfl, trivial⟩
  refine wp_seq_k fun K3 hK3 => ?_
  refine wp_region_lit ?_
  refine sq hA (q_move rfl) rfl fun a hA => ?_
  refine sl hA (lo_bs (f := B8) (e := 5) ([97#8]) hH rfl rfl (fun w => by kernel_rfl)) rfl ?_
  clear hH; rintro v_t14 w ⟨N_t14, hO_t14, hH⟩ a hA
  replace hH := hH.pick [1, 0, 2, 3] (Hs' := [_, _, _, _]) rfl
  refine sl hA (lo_call fn24 rfl (sign7_any (hg.mono0 hH) b_k b_s (hg.ng NG.nil hH) z hsd 1 0 hn v_l (HS.boxDM (Ns1 := [_]) hH 1 rfl hsd) (Own.rdM hO_l (Ns1 := [_]) hH 2 rfl) 0 (by decide) _ [97#8] (Own.rdM hO_t14 (Ns1 := [_]) hH 0 rfl) (by first | omega | (simp; done) | (simp; omega)) (HS.handed (Ns1 := [_]) hH))) rfl ?_
  rintro _ w ⟨v_ot15, v_pt15, N_ot15, N_pt15, rfl, hOo_t15, hOp_t15, hC⟩ a hA
  replace hH := HS.call (Ns1 := [_]) hH hC
  clear hC
  have hdo_t15 := otsK_dg z 1 0 [97#8]
  have hdp_t15 := pthK_dg z 1 (show 0 < 2 ^ 0 by first | assumption | omega | simp)
  have hlo_t15 := otsK_length z 1 0 [97#8]
  have hlp_t15 := pthK_length z 1 0 0
  refine sq hA (q_move rfl) rfl fun a hA => ?_
  refine sq hA (q_extract rfl rfl) rfl fun a hA => ?_
  refine sq hA (q_extract rfl rfl) rfl fun a hA => ?_
  refine sl hA (lo_allocA hH ti27) rfl ?_
  clear hH; rintro _ w ⟨b_t3, rfl, hH⟩ a hA
  refine s0 hA (lo_storeAm hH ti27 rfl rfl (rfl) (rfl) (ones_cons rfl (ones_cons (Own.one hOo_t15) (ones_cons (Own.one hOp_t15) ones_nil)))) ?_
  clear hH; rintro _ w hH
  refine sq hA (q_assign rfl) rfl fun a hA => ?_
  refine wpList_nil ?_
  refine hK3 _ _ ?_
  clear hK3
  replace hA := hA.sub (E' := [(4, _), (3, _), (2, _), (1, _), (0, _)]) ⟨rfl, rfl, rfl, rfl, rfl, trivial⟩
  refine wp_seq_k fun K4 hK4 => ?_
  refine wp_region_lit ?_
  refine sq hA (q_move rfl) rfl fun a hA => ?_
  refine sl hA (lo_bs (f := B8) (e := 5) ([97#8]) hH rfl rfl (fun w => by kernel_rfl)) rfl ?_
  clear hH; rintro v_t20 w ⟨N_t20, hO_t20, hH⟩ a hA
  replace hH := hH.pick [2, 0, 1, 3, 4, 5, 6, 7] (Hs' := [_, _, _, _, _, _, _, _]) rfl
  refine sl hA (lo_call fn24 rfl (sign7_end (hg.mono0 hH) b_k b_s (hg.ng NG.nil hH) z hsd 1 0 hn v_l (HS.boxDM (Ns1 := [_]) hH 5 rfl hsd) (Own.rdM hO_l (Ns1 := [_]) hH 6 rfl) 1 rfl _ (HS.handed (Ns1 := [_]) hH))) rfl ?_
  rintro _ w ⟨rfl, hC⟩ a hA
  replace hH := HS.call (Ns1 := [_]) hH hC
  clear hC
  refine sq hA (q_move rfl) rfl fun a hA => ?_
  refine sq hA (q_extract rfl rfl) rfl fun a hA => ?_
  refine sq hA (q_extract rfl rfl) rfl fun a hA => ?_
  refine sl hA (lo_allocA hH ti27) rfl ?_
  clear hH; rintro _ w ⟨b_t5, rfl, hH⟩ a hA
  refine s0 hA (lo_storeAm hH ti27 rfl rfl (rfl) (rfl) (ones_cons rfl (ones_cons rfl (ones_cons rfl ones_nil)))) ?_
  clear hH; rintro _ w hH
  refine sq hA (q_assign rfl) rfl fun a hA => ?_
  refine wpList_nil ?_
  refine hK4 _ _ ?_
  clear hK4
  replace hA := hA.sub (E' := [(6, _), (4, _), (3, _), (2, _), (1, _), (0, _)]) ⟨rfl, rfl, rfl, rfl, rfl, rfl, trivial⟩
  refine wp_seq_k fun K5 hK5 => ?_
  refine any_go mixed (fun j => !(Nat.beq j 15)) hH ?_
  clear hH; intro w hH
  have hS := hH
  change wpK _ _ _ _ _ _ 18 #[false, false, false, false, false, false, false, false, false, false, false, false, false, false, false, false, false, false] _ _
  refine apq hA 0 rfl (by kernel_rfl) (by intro c a d v w h; cases d <;> exact h) (fun w => (q_move rfl)) rfl (listed' := #[true, false, false, false, false, false, false, false, false, false, false, false, false, false, false, false, false, false]) rfl fun a hA => ?_
  refine apq hA 1 rfl (by kernel_rfl) (by intro c a d v w h; cases d <;> exact h) (fun w => (q_eqlI (n := 0) rfl rfl)) rfl (listed' := #[true, true, false, false, false, false, false, false, false, false, false, false, false, false, false, false, false, false]) rfl fun a hA => ?_
  replace hA := hA.decT (by first | rfl | omega | assumption | (simp; done) | (simp [*]; done))
  refine apq hA 2 rfl (by kernel_rfl) (by intro c a d v w h; cases d <;> exact h) (fun w => (q_move rfl)) rfl (listed' := #[true, true, true, false, false, false, false, false, false, false, false, false, false, false, false, false, false, false]) rfl fun a hA => ?_
  refine apgq hA 3 rfl (by kernel_rfl) rfl rfl (by intro c a d v w h; cases d <;> exact h) (fun w => (q_move rfl)) rfl (listed' := #[true, true, true, true, false, false, false, false, false, false, false, false, false, false, false, false, false, false]) rfl fun a hA => ?_
  refine apgq hA 4 rfl (by kernel_rfl) rfl rfl (by intro c a d v w h; cases d <;> exact h) (fun w => (q_eqlI (n := 0) rfl rfl)) rfl (listed' := #[true, true, true, true, true, false, false, false, false, false, false, false, false, false, false, false, false, false]) rfl fun a hA => ?_
  refine apq hA 5 rfl (by kernel_rfl) (by intro c a d v w h; cases d <;> exact h) (fun w => (q_pick_t rfl rfl)) rfl (listed' := #[true, true, true, true, true, true, false, false, false, false, false, false, false, false, false, false, false, false]) rfl fun a hA => ?_
  replace hA := hA.decT (by first | rfl | omega | assumption | (simp; done) | (simp [*]; done))
  refine apq hA 6 rfl (by kernel_rfl) (by intro c a d v w h; cases d <;> exact h) (fun w => (q_move rfl)) rfl (listed' := #[true, true, true, true, true, true, true, false, false, false, false, false, false, false, false, false, false, false]) rfl fun a hA => ?_
  refine apgq hA 7 rfl (by kernel_rfl) rfl rfl (by intro c a d v w h; cases d <;> exact h) (fun w => (q_move rfl)) rfl (listed' := #[true, true, true, true, true, true, true, true, false, false, false, false, false, false, false, false, false, false]) rfl fun a hA => ?_
  refine apgq hA 8 rfl (by kernel_rfl) rfl rfl (by intro c a d v w h; cases d <;> exact h) (fun w => (q_eqlI (n := 70) rfl rfl)) rfl (listed' := #[true, true, true, true, true, true, true, true, true, false, false, false, false, false, false, false, false, false]) rfl fun a hA => ?_
  refine apq hA 9 rfl (by kernel_rfl) (by intro c a d v w h; cases d <;> exact h) (fun w => (q_pick_t rfl rfl)) rfl (listed' := #[true, true, true, true, true, true, true, true, true, true, false, false, false, false, false, false, false, false]) rfl fun a hA => ?_
  replace hA := hA.decT (by first | rfl | omega | assumption | (simp; done) | (simp [*]; done))
  refine apq hA 10 rfl (by kernel_rfl) (by intro c a d v w h; cases d <;> exact h) (fun w => (q_move rfl)) rfl (listed' := #[true, true, true, true, true, true, true, true, true, true, true, false, false, false, false, false, false, false]) rfl fun a hA => ?_
  refine apgq hA 11 rfl (by kernel_rfl) rfl rfl (by intro c a d v w h; cases d <;> exact h) (fun w => (q_move rfl)) rfl (listed' := #[true, true, true, true, true, true, true, true, true, true, true, true, false, false, false, false, false, false]) rfl fun a hA => ?_
  refine agq hA 14 rfl (by kernel_rfl) rfl rfl (by intro c a d v w h; cases d <;> exact h) hS (fun w hH => (q_loadW hH 3 rfl Tryd.underlying27 rfl ti27 rfl (by first | omega | (simp; done) | (simp; omega) | (rw [List.length_map]; assumption) | assumption | rfl | (simp [*]; done) | (simp [*]; omega)))) rfl (listed' := #[true, true, true, true, true, true, true, true, true, true, true, true, false, false, true, false, false, false]) rfl fun a hA => ?_
  refine a_ch2 (i := 12) (j := 13) (by kernel_rfl) ?_ ?_
  · skip
    replace hH := hH.pick [1, 0, 2, 3, 4, 5, 6, 7, 8] (Hs' := [_, _, _, _, _, _, _, _, _]) rfl
    refine oneGL hA 12 rfl rfl rfl (lo_call fn19 rfl (public7_any _ _ _ _ hPl _ _ _ hshp (by first | exact Nat.zero_le _ | omega | decide) (by first | assumption | omega | decide) (HS.handed (Ns1 := [_]) hH))) rfl (listed' := #[true, true, true, true, true, true, true, true, true, true, true, true, true, false, true, false, false, false]) rfl ?_
    rintro _ w ⟨rfl, hC⟩
    replace hH := HS.call (Ns1 := [_]) hH hC
    clear hC
    have hS' := hH.pick [1, 0, 2, 3, 4, 5, 6, 7, 8] (Hs' := [_, _, _, _, _, _, _, _, _]) rfl
    replace hS := hS'; clear hS'
    refine ⟨fun _ _ => hS, ?_⟩
    intro a hA
    refine agl hA 13 rfl (by kernel_rfl) rfl rfl (lo_bs (f := B8) (e := 5) ([97#8]) hH rfl rfl (fun w => by kernel_rfl)) rfl (listed' := #[true, true, true, true, true, true, true, true, true, true, true, true, true, true, true, false, false, false]) rfl ?_
    clear hH; rintro v_t37 w ⟨N_t37, hO_t37, hH⟩
    have hS' := hH.pick [2, 1, 3, 4, 5, 6, 7, 8, 9] (Hs' := [_, _, _, _, _, _, _, _, _]) rfl
    replace hS := hS'; clear hS'
    refine ⟨fun _ _ => hS, ?_⟩
    intro a hA
    refine agl hA 15 rfl (by kernel_rfl) rfl rfl (lo_call fn13 rfl (verify7_any (hg.mono0 hH) _ (by first | assumption | (rw [List.length_map]; assumption) | rfl | exact sha_length _ | (simp; done) | (simp [*]; done) | omega) _ _ _ _ (Own.rd0 hO_t37 hH 0 rfl) (by first | omega | (simp; done) | (simp; omega)) _ _ _ _ _ (by assumption) (by assumption) (Own.rd0 hOo_t15 hH 5 rfl) (Own.rd0 hOp_t15 hH 6 rfl) (by omega) (by omega))) rfl (listed' := #[true, true, true, true, true, true, true, true, true, true, true, true, true, true, true, true, false, false]) rfl ?_
    rintro _ w ⟨rfl, hC⟩
    replace hH := HS.call0 hH hC
    clear hC
    refine ⟨fun _ h => absurd h (by decide), ?_⟩
    intro a hA
    refine apq hA 16 rfl (by kernel_rfl) (by intro c a d v w h; cases d <;> exact h) (fun w => (q_pick_t rfl rfl)) rfl (listed' := #[true, true, true, true, true, true, true, true, true, true, true, true, true, true, true, true, true, false]) rfl fun a hA => ?_
    refine apq hA 17 rfl (by kernel_rfl) (by intro c a d v w h; cases d <;> exact h) (fun w => (q_assign rfl)) rfl (listed' := #[true, true, true, true, true, true, true, true, true, true, true, true, true, true, true, true, true, true]) rfl fun a hA => ?_
    refine a_end (by kernel_rfl) ?_ _
    refine hK5 _ _ ?_
    clear hK5
    replace hA := hA.sub (E' := [(0, _)]) ⟨rfl, trivial⟩
    refine wp_ret ?_
    refine post_ret hA (res_1 rfl hA rfl) ?_
    replace hH := hH.pick [] (Hs' := []) rfl
    exact ⟨_, rfl, congrArg Value.bool (decide_eq_true (sig_right z [97#8] hn (by decide))), hH⟩
  · skip
    refine oneGL hA 13 rfl rfl rfl (lo_bs (f := B8) (e := 5) ([97#8]) hH rfl rfl (fun w => by kernel_rfl)) rfl (listed' := #[true, true, true, true, true, true, true, true, true, true, true, true, false, true, true, false, false, false]) rfl ?_
    clear hH; rintro v_t37 w ⟨N_t37, hO_t37, hH⟩
    have hS' := hH.pick [1, 2, 3, 4, 5, 6, 7, 8, 9] (Hs' := [_, _, _, _, _, _, _, _, _]) rfl
    replace hS := hS'; clear hS'
    refine ⟨fun _ _ => hS, ?_⟩
    intro a hA
    replace hH := hH.pick [2, 0, 1, 3, 4, 5, 6, 7, 8, 9] (Hs' := [_, _, _, _, _, _, _, _, _, _]) rfl
    refine agl hA 12 rfl (by kernel_rfl) rfl rfl (lo_call fn19 rfl (public7_any _ _ _ _ hPl _ _ _ hshp (by first | exact Nat.zero_le _ | omega | decide) (by first | assumption | omega | decide) (HS.handed (Ns1 := [_]) hH))) rfl (listed' := #[true, true, true, true, true, true, true, true, true, true, true, true, true, true, true, false, false, false]) rfl ?_
    rintro _ w ⟨rfl, hC⟩
    replace hH := HS.call (Ns1 := [_]) hH hC
    clear hC
    have hS' := hH.pick [2, 0, 3, 4, 5, 6, 7, 8, 9] (Hs' := [_, _, _, _, _, _, _, _, _]) rfl
    replace hS := hS'; clear hS'
    refine ⟨fun _ _ => hS, ?_⟩
    intro a hA
    refine agl hA 15 rfl (by kernel_rfl) rfl rfl (lo_call fn13 rfl (verify7_any (hg.mono0 hH) _ (by first | assumption | (rw [List.length_map]; assumption) | rfl | exact sha_length _ | (simp; done) | (simp [*]; done) | omega) _ _ _ _ (Own.rd0 hO_t37 hH 1 rfl) (by first | omega | (simp; done) | (simp; omega)) _ _ _ _ _ (by assumption) (by assumption) (Own.rd0 hOo_t15 hH 5 rfl) (Own.rd0 hOp_t15 hH 6 rfl) (by omega) (by omega))) rfl (listed' := #[true, true, true, true, true, true, true, true, true, true, true, true, true, true, true, true, false, false]) rfl ?_
    rintro _ w ⟨rfl, hC⟩
    replace hH := HS.call0 hH hC
    clear hC
    refine ⟨fun _ h => absurd h (by decide), ?_⟩
    intro a hA
    refine apq hA 16 rfl (by kernel_rfl) (by intro c a d v w h; cases d <;> exact h) (fun w => (q_pick_t rfl rfl)) rfl (listed' := #[true, true, true, true, true, true, true, true, true, true, true, true, true, true, true, true, true, false]) rfl fun a hA => ?_
    refine apq hA 17 rfl (by kernel_rfl) (by intro c a d v w h; cases d <;> exact h) (fun w => (q_assign rfl)) rfl (listed' := #[true, true, true, true, true, true, true, true, true, true, true, true, true, true, true, true, true, true]) rfl fun a hA => ?_
    refine a_end (by kernel_rfl) ?_ _
    refine hK5 _ _ ?_
    clear hK5
    replace hA := hA.sub (E' := [(0, _)]) ⟨rfl, trivial⟩
    refine wp_ret ?_
    refine post_ret hA (res_1 rfl hA rfl) ?_
    replace hH := hH.pick [] (Hs' := []) rfl
    exact ⟨_, rfl, congrArg Value.bool (decide_eq_true (sig_right z [97#8] hn (by decide))), hH⟩

end Go.Proofs.YtipjpbfledddaaaDoor
