/- Layer 7 (keys): the law KeysTells. -/
import Derived.Test.YtipjpbfledddaaaDoorHf
namespace Go.Proofs.YtipjpbfledddaaaDoor
open Go
set_option linter.unusedVariables false
set_option linter.unusedSimpArgs false
set_option maxRecDepth 100000

set_option maxHeartbeats 1000000 in
theorem keysTells_any {w0 : World} (hg : Gl 2 w0) (pub : Bs) (hpub : pub.length = 32) (n h : Int) (v : Value) (l : Bs) (hr : By [] w0 v l) (hl : l.length ≤ 1048576) (ix : Int) (ua xa : Value) (A B : List Bs) (hdA : Dg A) (hdB : Dg B) (hua : RdD [] w0 ua A) (hxa : RdD [] w0 xa B) (hlA : A.length ≤ 1048576) (hlB : B.length ≤ 1048576) (hi9 : ix ≤ 9223372036854775807) :
    Calls Tryd.prog 3 #[(.agg ((pub).map B8).toArray), I n, I h, v, (.agg #[I ix, ua, xa])] w0 (Ret fun r w' => r = .bool true ∧ HS [] w0 w' []) := by
  have hH := HS.start w0
  refine start (n := 50) (E := [(0, _), (1, _), (2, _), (3, _), (4, _)]) Tryd.func3 rfl rfl rfl (args_look rfl) ?_
  intro a hA
  refine wp_seq_k fun K1 hK1 => ?_
  refine wp_region_lit ?_
  refine sl hA (lo_boxA hH rfl) rfl ?_
  clear hH; rintro _ w ⟨b_t5, rfl, hH⟩ a hA
  refine sl hA (lo_boxA hH rfl) rfl ?_
  clear hH; rintro _ w ⟨b_t9, rfl, hH⟩ a hA
  refine sq hA (q_assign rfl) rfl fun a hA => ?_
  refine wpList_nil ?_
  refine hK1 _ _ ?_
  clear hK1
  replace hA := hA.sub (E' := [(10, _), (9, _), (5, _), (1, _), (2, _), (3, _)]) ⟨rfl, rfl, rfl, rfl, rfl, rfl, trivial⟩
  refine wp_seq_k fun K2 hK2 => ?_
  refine wp_seq_k fun K3 hK3 => ?_
  refine wp_region_lit ?_
  refine sq hA (q_move rfl) rfl fun a hA => ?_
  refine sq hA (q_move rfl) rfl fun a hA => ?_
  refine sl hA (lo_call fn11 rfl (great7_any _ _)) rfl ?_
  rintro _ w ⟨rfl, hC⟩ a hA
  replace hH := HS.call0 hH hC
  clear hC
  refine hA.spl (fun hs13 hA => ?_) (fun hs13 hA => ?_)
  · skip
    refine sq hA (q_move rfl) rfl fun a hA => ?_
    refine gs hA rfl rfl rfl rfl fun a hA => ?_
    refine gs hA rfl rfl rfl rfl fun a hA => ?_
    refine gs hA rfl rfl rfl rfl fun a hA => ?_
    refine sq hA (q_pick_t rfl rfl) rfl fun a hA => ?_
    refine sq hA (q_move rfl) rfl fun a hA => ?_
    refine gs hA rfl rfl rfl rfl fun a hA => ?_
    refine gs hA rfl rfl rfl rfl fun a hA => ?_
    refine gs hA rfl rfl rfl rfl fun a hA => ?_
    refine gs hA rfl rfl rfl rfl fun a hA => ?_
    refine sq hA (q_pick_t rfl rfl) rfl fun a hA => ?_
    refine sq hA (q_move rfl) rfl fun a hA => ?_
    refine gs hA rfl rfl rfl rfl fun a hA => ?_
    refine gs hA rfl rfl rfl rfl fun a hA => ?_
    refine gs hA rfl rfl rfl rfl fun a hA => ?_
    refine gs hA rfl rfl rfl rfl fun a hA => ?_
    refine sq hA (q_pick_t rfl rfl) rfl fun a hA => ?_
    refine wpList_nil ?_
    refine hK3 _ _ ?_
    clear hK3
    replace hA := hA.sub (E' := [(30, _), (10, _), (9, _), (5, _), (1, _), (2, _), (3, _)]) ⟨rfl, rfl, rfl, rfl, rfl, rfl, rfl, trivial⟩
    refine cond_t hA rfl ?_
    refine wp_seq_k fun K4 hK4 => ?_
    refine wp_region_lit ?_
    refine sl hA (lo_call fn12 rfl (awake7_any (hg.mono0 hH))) rfl ?_
    rintro _ w ⟨rfl, hC⟩ a hA
    replace hH := HS.call0 hH hC
    clear hC
    refine sq hA (q_assign rfl) rfl fun a hA => ?_
    refine wpList_nil ?_
    refine hK4 _ _ ?_
    clear hK4
    replace hA := hA.sub (E' := [(10, _), (9, _), (5, _), (1, _), (2, _), (3, _)]) ⟨rfl, rfl, rfl, rfl, rfl, rfl, trivial⟩
    refine wp_ret ?_
    refine then_ret ?_
    refine post_ret hA (res_1 rfl hA rfl) ?_
    replace hH := hH.pick [] (Hs' := []) rfl
    exact ⟨_, rfl, rfl, hH⟩
  · skip
    refine sq hA (q_move rfl) rfl fun a hA => ?_
    refine gq hA rfl rfl (q_move rfl) rfl fun a hA => ?_
    refine gq hA rfl rfl (q_len Tryd.underlying24 rfl (Rd.shp hr)) rfl fun a hA => ?_
    refine gq hA rfl rfl (q_gtrI (n := 200) rfl rfl) rfl fun a hA => ?_
    refine hA.spl (fun hs17 hA => ?_) (fun hs17 hA => ?_)
    · skip
      refine sq hA (q_pick_f rfl rfl) rfl fun a hA => ?_
      refine sq hA (q_move rfl) rfl fun a hA => ?_
      refine gs hA rfl rfl rfl rfl fun a hA => ?_
      refine gs hA rfl rfl rfl rfl fun a hA => ?_
      refine gs hA rfl rfl rfl rfl fun a hA => ?_
      refine gs hA rfl rfl rfl rfl fun a hA => ?_
      refine sq hA (q_pick_t rfl rfl) rfl fun a hA => ?_
      refine sq hA (q_move rfl) rfl fun a hA => ?_
      refine gs hA rfl rfl rfl rfl fun a hA => ?_
      refine gs hA rfl rfl rfl rfl fun a hA => ?_
      refine gs hA rfl rfl rfl rfl fun a hA => ?_
      refine gs hA rfl rfl rfl rfl fun a hA => ?_
      refine sq hA (q_pick_t rfl rfl) rfl fun a hA => ?_
      refine wpList_nil ?_
      refine hK3 _ _ ?_
      clear hK3
      replace hA := hA.sub (E' := [(30, _), (10, _), (9, _), (5, _), (1, _), (2, _), (3, _)]) ⟨rfl, rfl, rfl, rfl, rfl, rfl, rfl, trivial⟩
      refine cond_t hA rfl ?_
      refine wp_seq_k fun K5 hK5 => ?_
      refine wp_region_lit ?_
      refine sl hA (lo_call fn12 rfl (awake7_any (hg.mono0 hH))) rfl ?_
      rintro _ w ⟨rfl, hC⟩ a hA
      replace hH := HS.call0 hH hC
      clear hC
      refine sq hA (q_assign rfl) rfl fun a hA => ?_
      refine wpList_nil ?_
      refine hK5 _ _ ?_
      clear hK5
      replace hA := hA.sub (E' := [(10, _), (9, _), (5, _), (1, _), (2, _), (3, _)]) ⟨rfl, rfl, rfl, rfl, rfl, rfl, trivial⟩
      refine wp_ret ?_
      refine then_ret ?_
      refine post_ret hA (res_1 rfl hA rfl) ?_
      replace hH := hH.pick [] (Hs' := []) rfl
      exact ⟨_, rfl, rfl, hH⟩
    · skip
      refine sq hA (q_pick_f rfl rfl) rfl fun a hA => ?_
      refine sq hA (q_move rfl) rfl fun a hA => ?_
      refine gq hA rfl rfl (q_fld 1 Tryd.underlying27 rfl rfl ti25 rfl) rfl fun a hA => ?_
      refine gq hA rfl rfl (q_loadB hH 0 rfl (List.mem_singleton.2 rfl) Tryd.underlying25 rfl rfl rfl) rfl fun a hA => ?_
      refine gq hA rfl rfl (q_len Tryd.underlying25 rfl (Rd.shp hua)) rfl fun a hA => ?_
      refine gq hA rfl rfl (q_gtrI (n := 100) rfl rfl) rfl fun a hA => ?_
      refine hA.spl (fun hs23 hA => ?_) (fun hs23 hA => ?_)
      · skip
        refine sq hA (q_pick_f rfl rfl) rfl fun a hA => ?_
        refine sq hA (q_move rfl) rfl fun a hA => ?_
        refine gs hA rfl rfl rfl rfl fun a hA => ?_
        refine gs hA rfl rfl rfl rfl fun a hA => ?_
        refine gs hA rfl rfl rfl rfl fun a hA => ?_
        refine gs hA rfl rfl rfl rfl fun a hA => ?_
        refine sq hA (q_pick_t rfl rfl) rfl fun a hA => ?_
        refine wpList_nil ?_
        refine hK3 _ _ ?_
        clear hK3
        replace hA := hA.sub (E' := [(30, _), (10, _), (9, _), (5, _), (1, _), (2, _), (3, _)]) ⟨rfl, rfl, rfl, rfl, rfl, rfl, rfl, trivial⟩
        refine cond_t hA rfl ?_
        refine wp_seq_k fun K6 hK6 => ?_
        refine wp_region_lit ?_
        refine sl hA (lo_call fn12 rfl (awake7_any (hg.mono0 hH))) rfl ?_
        rintro _ w ⟨rfl, hC⟩ a hA
        replace hH := HS.call0 hH hC
        clear hC
        refine sq hA (q_assign rfl) rfl fun a hA => ?_
        refine wpList_nil ?_
        refine hK6 _ _ ?_
        clear hK6
        replace hA := hA.sub (E' := [(10, _), (9, _), (5, _), (1, _), (2, _), (3, _)]) ⟨rfl, rfl, rfl, rfl, rfl, rfl, trivial⟩
        refine wp_ret ?_
        refine then_ret ?_
        refine post_ret hA (res_1 rfl hA rfl) ?_
        replace hH := hH.pick [] (Hs' := []) rfl
        exact ⟨_, rfl, rfl, hH⟩
      · skip
        refine sq hA (q_pick_f rfl rfl) rfl fun a hA => ?_
        refine sq hA (q_move rfl) rfl fun a hA => ?_
        refine gq hA rfl rfl (q_fld 2 Tryd.underlying27 rfl rfl ti25 rfl) rfl fun a hA => ?_
        refine gq hA rfl rfl (q_loadB hH 0 rfl (List.mem_singleton.2 rfl) Tryd.underlying25 rfl rfl rfl) rfl fun a hA => ?_
        refine gq hA rfl rfl (q_len Tryd.underlying25 rfl (Rd.shp hxa)) rfl fun a hA => ?_
        refine gq hA rfl rfl (q_gtrI (n := 20) rfl rfl) rfl fun a hA => ?_
        refine hA.spl (fun hs29 hA => ?_) (fun hs29 hA => ?_)
        · skip
          refine sq hA (q_pick_f rfl rfl) rfl fun a hA => ?_
          refine wpList_nil ?_
          refine hK3 _ _ ?_
          clear hK3
          replace hA := hA.sub (E' := [(30, _), (10, _), (9, _), (5, _), (1, _), (2, _), (3, _)]) ⟨rfl, rfl, rfl, rfl, rfl, rfl, rfl, trivial⟩
          refine cond_t hA rfl ?_
          refine wp_seq_k fun K7 hK7 => ?_
          refine wp_region_lit ?_
          refine sl hA (lo_call fn12 rfl (awake7_any (hg.mono0 hH))) rfl ?_
          rintro _ w ⟨rfl, hC⟩ a hA
          replace hH := HS.call0 hH hC
          clear hC
          refine sq hA (q_assign rfl) rfl fun a hA => ?_
          refine wpList_nil ?_
          refine hK7 _ _ ?_
          clear hK7
          replace hA := hA.sub (E' := [(10, _), (9, _), (5, _), (1, _), (2, _), (3, _)]) ⟨rfl, rfl, rfl, rfl, rfl, rfl, trivial⟩
          refine wp_ret ?_
          refine then_ret ?_
          refine post_ret hA (res_1 rfl hA rfl) ?_
          replace hH := hH.pick [] (Hs' := []) rfl
          exact ⟨_, rfl, rfl, hH⟩
        · skip
          refine sq hA (q_pick_f rfl rfl) rfl fun a hA => ?_
          refine wpList_nil ?_
          refine hK3 _ _ ?_
          clear hK3
          replace hA := hA.sub (E' := [(30, _), (10, _), (9, _), (5, _), (1, _), (2, _), (3, _)]) ⟨rfl, rfl, rfl, rfl, rfl, rfl, rfl, trivial⟩
          refine cond_f hA rfl ?_
          refine wp_skip ?_
          refine hK2 _ _ ?_
          clear hK2
          replace hA := hA.sub (E' := [(10, _), (9, _), (5, _), (1, _), (2, _), (3, _)]) ⟨rfl, rfl, rfl, rfl, rfl, rfl, trivial⟩
          refine wp_seq_k fun K8 hK8 => ?_
          refine any_go mixed (fun _ => true) hH ?_
          clear hH; intro w hH
          have hS := hH
          change wpK _ _ _ _ _ _ 19 #[false, false, false, false, false, false, false, false, false, false, false, false, false, false, false, false, false, false, false] _ _
          refine aq hA 0 rfl (by kernel_rfl) (by intro c a d v w h; cases d <;> exact h) hS (fun w hH => (q_loadW hH 1 rfl Tryd.underlying23 rfl ti23 rfl (by first | omega | (simp; done) | (simp; omega) | (rw [List.length_map]; assumption) | assumption | rfl | (simp [*]; done) | (simp [*]; omega)))) rfl (listed' := #[true, false, false, false, false, false, false, false, false, false, false, false, false, false, false, false, false, false, false]) rfl fun a hA => ?_
          refine apq hA 1 rfl (by kernel_rfl) (by intro c a d v w h; cases d <;> exact h) (fun w => (q_move rfl)) rfl (listed' := #[true, true, false, false, false, false, false, false, false, false, false, false, false, false, false, false, false, false, false]) rfl fun a hA => ?_
          refine apq hA 2 rfl (by kernel_rfl) (by intro c a d v w h; cases d <;> exact h) (fun w => (q_move rfl)) rfl (listed' := #[true, true, true, false, false, false, false, false, false, false, false, false, false, false, false, false, false, false, false]) rfl fun a hA => ?_
          refine apq hA 3 rfl (by kernel_rfl) (by intro c a d v w h; cases d <;> exact h) (fun w => (q_move rfl)) rfl (listed' := #[true, true, true, true, false, false, false, false, false, false, false, false, false, false, false, false, false, false, false]) rfl fun a hA => ?_
          refine aq hA 5 rfl (by kernel_rfl) (by intro c a d v w h; cases d <;> exact h) hS (fun w hH => (q_loadW hH 0 rfl Tryd.underlying27 rfl ti27 rfl (by first | omega | (simp; done) | (simp; omega) | (rw [List.length_map]; assumption) | assumption | rfl | (simp [*]; done) | (simp [*]; omega)))) rfl (listed' := #[true, true, true, true, false, true, false, false, false, false, false, false, false, false, false, false, false, false, false]) rfl fun a hA => ?_
          refine aq hA 8 rfl (by kernel_rfl) (by intro c a d v w h; cases d <;> exact h) hS (fun w hH => (q_loadW hH 1 rfl Tryd.underlying23 rfl ti23 rfl (by first | omega | (simp; done) | (simp; omega) | (rw [List.length_map]; assumption) | assumption | rfl | (simp [*]; done) | (simp [*]; omega)))) rfl (listed' := #[true, true, true, true, false, true, false, false, true, false, false, false, false, false, false, false, false, false, false]) rfl fun a hA => ?_
          refine apq hA 9 rfl (by kernel_rfl) (by intro c a d v w h; cases d <;> exact h) (fun w => (q_move rfl)) rfl (listed' := #[true, true, true, true, false, true, false, false, true, true, false, false, false, false, false, false, false, false, false]) rfl fun a hA => ?_
          refine apq hA 10 rfl (by kernel_rfl) (by intro c a d v w h; cases d <;> exact h) (fun w => (q_move rfl)) rfl (listed' := #[true, true, true, true, false, true, false, false, true, true, true, false, false, false, false, false, false, false, false]) rfl fun a hA => ?_
          refine apq hA 11 rfl (by kernel_rfl) (by intro c a d v w h; cases d <;> exact h) (fun w => (q_move rfl)) rfl (listed' := #[true, true, true, true, false, true, false, false, true, true, true, true, false, false, false, false, false, false, false]) rfl fun a hA => ?_
          refine aq hA 12 rfl (by kernel_rfl) (by intro c a d v w h; cases d <;> exact h) hS (fun w hH => (q_loadW hH 0 rfl Tryd.underlying27 rfl ti27 rfl (by first | omega | (simp; done) | (simp; omega) | (rw [List.length_map]; assumption) | assumption | rfl | (simp [*]; done) | (simp [*]; omega)))) rfl (listed' := #[true, true, true, true, false, true, false, false, true, true, true, true, true, false, false, false, false, false, false]) rfl fun a hA => ?_
          refine al hA 4 rfl (by kernel_rfl) (lo_call fn14 rfl (own7_any _ _ (hH.rd hr) (by first | omega | (simp; done) | (simp; omega)))) rfl (listed' := #[true, true, true, true, true, true, false, false, true, true, true, true, true, false, false, false, false, false, false]) rfl ?_
          rintro _ w ⟨v_t36, N_t36, rfl, hO_t36, hC⟩
          replace hH := HS.call0 hH hC
          clear hC
          have hS' := hH.pick [1, 2] (Hs' := [_, _]) rfl
          replace hS := hS'; clear hS'
          refine ⟨fun _ _ => hS, ?_⟩
          intro a hA
          refine al hA 6 rfl (by kernel_rfl) (lo_call fn15 rfl (copy7_any _ _ _ _ _ (by first | assumption | exact Dg.nil) (by first | assumption | exact Dg.nil) (hH.rd hua) (hH.rd hxa) (by first | omega | (simp; done) | (simp; omega)) (by first | omega | (simp; done) | (simp; omega)))) rfl (listed' := #[true, true, true, true, true, true, true, false, true, true, true, true, true, false, false, false, false, false, false]) rfl ?_
          rintro _ w ⟨v_ot38, v_pt38, N_ot38, N_pt38, rfl, hOo_t38, hOp_t38, hC⟩
          replace hH := HS.call0 hH hC
          clear hC
          have hS' := hH.pick [3, 4] (Hs' := [_, _]) rfl
          replace hS := hS'; clear hS'
          refine ⟨fun _ _ => hS, ?_⟩
          intro a hA
          refine al hA 7 rfl (by kernel_rfl) (lo_call fn13 rfl (verify7_any (hg.mono0 hH) _ (by first | assumption | (rw [List.length_map]; assumption) | rfl | exact sha_length _ | (simp; done) | (simp [*]; done) | omega) _ _ _ _ (Own.rd0 hO_t36 hH 2 rfl) (by first | omega | (simp; done) | (simp; omega)) _ _ _ _ _ (by assumption) (by assumption) (Own.rd0 hOo_t38 hH 0 rfl) (Own.rd0 hOp_t38 hH 1 rfl) (by omega) (by omega))) rfl (listed' := #[true, true, true, true, true, true, true, true, true, true, true, true, true, false, false, false, false, false, false]) rfl ?_
          rintro _ w ⟨rfl, hC⟩
          replace hH := HS.call0 hH hC
          clear hC
          have hS' := hH.pick [3, 4] (Hs' := [_, _]) rfl
          replace hS := hS'; clear hS'
          refine ⟨fun _ _ => hS, ?_⟩
          intro a hA
          refine al hA 13 rfl (by kernel_rfl) (lo_call fn16 rfl (refverify7_any (hg.mono0 hH) _ (by first | assumption | (rw [List.length_map]; assumption) | rfl | exact sha_length _ | (simp; done) | (simp [*]; done) | omega) _ _ _ _ (hH.rd hr) (by first | omega | (simp; done) | (simp; omega)) _ _ _ _ _ (by assumption) (by assumption) (hH.rd hua) (hH.rd hxa) (by omega) (by omega) (by assumption))) rfl (listed' := #[true, true, true, true, true, true, true, true, true, true, true, true, true, true, false, false, false, false, false]) rfl ?_
          rintro _ w ⟨rfl, hC⟩
          replace hH := HS.call0 hH hC
          clear hC
          have hS' := hH.pick [3, 4] (Hs' := [_, _]) rfl
          replace hS := hS'; clear hS'
          refine ⟨fun _ _ => hS, ?_⟩
          intro a hA
          refine apq hA 14 rfl (by kernel_rfl) (by intro c a d v w h; cases d <;> exact h) (fun w => (q_eqlB Tryd.underlying4 rfl rfl)) rfl (listed' := #[true, true, true, true, true, true, true, true, true, true, true, true, true, true, true, false, false, false, false]) rfl fun a hA => ?_
          replace hA := hA.decT (by first | rfl | omega | assumption | (simp; done) | (simp [*]; done))
          refine apq hA 15 rfl (by kernel_rfl) (by intro c a d v w h; cases d <;> exact h) (fun w => (q_move rfl)) rfl (listed' := #[true, true, true, true, true, true, true, true, true, true, true, true, true, true, true, true, false, false, false]) rfl fun a hA => ?_
          refine agl hA 16 rfl (by kernel_rfl) rfl rfl (lo_call fn12 rfl (awake7_any (hg.mono0 hH))) rfl (listed' := #[true, true, true, true, true, true, true, true, true, true, true, true, true, true, true, true, true, false, false]) rfl ?_
          rintro _ w ⟨rfl, hC⟩
          replace hH := HS.call0 hH hC
          clear hC
          have hS' := hH.pick [3, 4] (Hs' := [_, _]) rfl
          replace hS := hS'; clear hS'
          refine ⟨fun _ _ => hS, ?_⟩
          intro a hA
          refine apq hA 17 rfl (by kernel_rfl) (by intro c a d v w h; cases d <;> exact h) (fun w => (q_pick_t rfl rfl)) rfl (listed' := #[true, true, true, true, true, true, true, true, true, true, true, true, true, true, true, true, true, true, false]) rfl fun a hA => ?_
          refine apq hA 18 rfl (by kernel_rfl) (by intro c a d v w h; cases d <;> exact h) (fun w => (q_assign rfl)) rfl (listed' := #[true, true, true, true, true, true, true, true, true, true, true, true, true, true, true, true, true, true, true]) rfl fun a hA => ?_
          refine a_end (by kernel_rfl) ?_ _
          refine hK8 _ _ ?_
          clear hK8
          replace hA := hA.sub (E' := [(10, _)]) ⟨rfl, trivial⟩
          refine wp_ret ?_
          refine post_ret hA (res_1 rfl hA rfl) ?_
          replace hH := hH.pick [] (Hs' := []) rfl
          exact ⟨_, rfl, rfl, hH⟩

end Go.Proofs.YtipjpbfledddaaaDoor
