/- Layer 7 (keys): the law KeysOnce. -/
import Derived.Test.YtipjpbfledddaaaDoorHf
import Derived.Test.YtipjpbfledddaaaDoorMn
namespace Go.Proofs.YtipjpbfledddaaaDoor
open Go
set_option linter.unusedVariables false
set_option linter.unusedSimpArgs false
set_option maxRecDepth 100000

set_option maxHeartbeats 1000000 in
theorem keysOnce_any {w0 : World} {lv : Nat} (hg : Gl lv w0) (s : Bs) (hsd : s.length = 32) (h : Int) (v : Value) (ac : List (Int × Int × Bs)) (hr : RdA [] w0 v ac) (hal : ac.length ≤ 1048576) :
    Calls Tryd.prog 6 #[(.agg ((s).map B8).toArray), I h, v] w0 (Ret fun r w' => r = .bool true ∧ HS [] w0 w' []) := by
  have hH := HS.start w0
  refine start (n := 96) (E := [(0, _), (1, _), (2, _)]) Tryd.func6 rfl rfl rfl (args_look rfl) ?_
  intro a hA
  obtain ⟨cs, ts, hcs, hat⟩ := hr
  refine wp_seq_k fun K1 hK1 => ?_
  refine wp_region_lit ?_
  refine sl hA (lo_boxA hH rfl) rfl ?_
  clear hH; rintro _ w ⟨b_t3, rfl, hH⟩ a hA
  refine sq hA (q_assign rfl) rfl fun a hA => ?_
  refine wpList_nil ?_
  refine hK1 _ _ ?_
  clear hK1
  replace hA := hA.sub (E' := [(6, _), (3, _), (1, _), (2, _)]) ⟨rfl, rfl, rfl, rfl, trivial⟩
  refine wp_seq_k fun K2 hK2 => ?_
  refine wp_seq_k fun K3 hK3 => ?_
  refine wp_region_lit ?_
  refine sq hA (q_move rfl) rfl fun a hA => ?_
  refine sq hA (q_lssI (n := 0) rfl rfl) rfl fun a hA => ?_
  refine hA.spl (fun hs14 hA => ?_) (fun hs14 hA => ?_)
  · skip
    refine sq hA (q_move rfl) rfl fun a hA => ?_
    refine gs hA rfl rfl rfl rfl fun a hA => ?_
    refine gs hA rfl rfl rfl rfl fun a hA => ?_
    refine sq hA (q_pick_t rfl rfl) rfl fun a hA => ?_
    refine sq hA (q_move rfl) rfl fun a hA => ?_
    refine gs hA rfl rfl rfl rfl fun a hA => ?_
    refine gs hA rfl rfl rfl rfl fun a hA => ?_
    refine gs hA rfl rfl rfl rfl fun a hA => ?_
    refine sq hA (q_pick_t rfl rfl) rfl fun a hA => ?_
    refine wpList_nil ?_
    refine hK3 _ _ ?_
    clear hK3
    replace hA := hA.sub (E' := [(23, _), (6, _), (3, _), (1, _), (2, _)]) ⟨rfl, rfl, rfl, rfl, rfl, trivial⟩
    refine cond_t hA rfl ?_
    refine wp_seq_k fun K4 hK4 => ?_
    refine wp_region_lit ?_
    refine sl hA (lo_call fn12 rfl (awake7_any (hg.mono0 hH))) rfl ?_
    rintro _ w ⟨rfl, hC⟩ a hA
    replace hH := HS.call0 hH hC
    clear hC
    refine sq hA (q_assign rfl) rfl fun a hA => ?_
    refine wpList_nil ?_
    refine hK4 _ _ ?_
    clear hK4
    replace hA := hA.sub (E' := [(6, _), (3, _), (1, _), (2, _)]) ⟨rfl, rfl, rfl, rfl, trivial⟩
    refine wp_ret ?_
    refine then_ret ?_
    refine post_ret hA (res_1 rfl hA rfl) ?_
    replace hH := hH.pick [] (Hs' := []) rfl
    exact ⟨_, rfl, rfl, hH⟩
  · skip
    refine sq hA (q_move rfl) rfl fun a hA => ?_
    refine gq hA rfl rfl (q_move rfl) rfl fun a hA => ?_
    refine gq hA rfl rfl (q_gtrI (n := 3) rfl rfl) rfl fun a hA => ?_
    refine hA.spl (fun hs17 hA => ?_) (fun hs17 hA => ?_)
    · skip
      refine sq hA (q_pick_f rfl rfl) rfl fun a hA => ?_
      refine sq hA (q_move rfl) rfl fun a hA => ?_
      refine gs hA rfl rfl rfl rfl fun a hA => ?_
      refine gs hA rfl rfl rfl rfl fun a hA => ?_
      refine gs hA rfl rfl rfl rfl fun a hA => ?_
      refine sq hA (q_pick_t rfl rfl) rfl fun a hA => ?_
      refine wpList_nil ?_
      refine hK3 _ _ ?_
      clear hK3
      replace hA := hA.sub (E' := [(23, _), (6, _), (3, _), (1, _), (2, _)]) ⟨rfl, rfl, rfl, rfl, rfl, trivial⟩
      refine cond_t hA rfl ?_
      refine wp_seq_k fun K5 hK5 => ?_
      refine wp_region_lit ?_
      refine sl hA (lo_call fn12 rfl (awake7_any (hg.mono0 hH))) rfl ?_
      rintro _ w ⟨rfl, hC⟩ a hA
      replace hH := HS.call0 hH hC
      clear hC
      refine sq hA (q_assign rfl) rfl fun a hA => ?_
      refine wpList_nil ?_
      refine hK5 _ _ ?_
      clear hK5
      replace hA := hA.sub (E' := [(6, _), (3, _), (1, _), (2, _)]) ⟨rfl, rfl, rfl, rfl, trivial⟩
      refine wp_ret ?_
      refine then_ret ?_
      refine post_ret hA (res_1 rfl hA rfl) ?_
      replace hH := hH.pick [] (Hs' := []) rfl
      exact ⟨_, rfl, rfl, hH⟩
    · skip
      refine sq hA (q_pick_f rfl rfl) rfl fun a hA => ?_
      refine sq hA (q_move rfl) rfl fun a hA => ?_
      refine gq hA rfl rfl (q_move rfl) rfl fun a hA => ?_
      refine gq hA rfl rfl (q_len Tryd.underlying48 rfl (Rd.shp hcs)) rfl fun a hA => ?_
      refine gq hA rfl rfl (q_gtrI (n := 60) rfl rfl) rfl fun a hA => ?_
      refine hA.spl (fun hs22 hA => ?_) (fun hs22 hA => ?_)
      · skip
        refine sq hA (q_pick_f rfl rfl) rfl fun a hA => ?_
        refine wpList_nil ?_
        refine hK3 _ _ ?_
        clear hK3
        replace hA := hA.sub (E' := [(23, _), (6, _), (3, _), (1, _), (2, _)]) ⟨rfl, rfl, rfl, rfl, rfl, trivial⟩
        refine cond_t hA rfl ?_
        refine wp_seq_k fun K6 hK6 => ?_
        refine wp_region_lit ?_
        refine sl hA (lo_call fn12 rfl (awake7_any (hg.mono0 hH))) rfl ?_
        rintro _ w ⟨rfl, hC⟩ a hA
        replace hH := HS.call0 hH hC
        clear hC
        refine sq hA (q_assign rfl) rfl fun a hA => ?_
        refine wpList_nil ?_
        refine hK6 _ _ ?_
        clear hK6
        replace hA := hA.sub (E' := [(6, _), (3, _), (1, _), (2, _)]) ⟨rfl, rfl, rfl, rfl, trivial⟩
        refine wp_ret ?_
        refine then_ret ?_
        refine post_ret hA (res_1 rfl hA rfl) ?_
        replace hH := hH.pick [] (Hs' := []) rfl
        exact ⟨_, rfl, rfl, hH⟩
      · skip
        obtain ⟨h, rfl⟩ : ∃ m : Nat, h = m := ⟨h.toNat, by omega⟩
        have hR : R7 ((1 : Nat) : Int) (h : Int) := by unfold R7 R5; omega
        have hn5 := hR.1
        have hn1 := hR.1.1
        have hn2 := hR.1.2
        have hh6 : h ≤ 6 := by have := hR.2.2; omega
        have h64 := pow_le64 hh6
        have hp0 : 0 < 2 ^ h := Nat.pow_pos (by decide)
        have hPl := pubK_length s 1 h
        refine sq hA (q_pick_f rfl rfl) rfl fun a hA => ?_
        refine wpList_nil ?_
        refine hK3 _ _ ?_
        clear hK3
        replace hA := hA.sub (E' := [(23, _), (6, _), (3, _), (1, _), (2, _)]) ⟨rfl, rfl, rfl, rfl, rfl, trivial⟩
        refine cond_f hA rfl ?_
        refine wp_skip ?_
        refine hK2 _ _ ?_
        clear hK2
        replace hA := hA.sub (E' := [(6, _), (3, _), (1, _), (2, _)]) ⟨rfl, rfl, rfl, rfl, trivial⟩
        refine wp_seq_k fun K7 hK7 => ?_
        refine wp_region_lit ?_
        refine sq hA (q_loadW hH 0 rfl Tryd.underlying23 rfl ti23 rfl (by first | omega | (simp; done) | (simp; omega) | (rw [List.length_map]; assumption) | assumption | rfl | (simp [*]; done) | (simp [*]; omega))) rfl fun a hA => ?_
        refine sq hA (q_move rfl) rfl fun a hA => ?_
        refine sl hA (lo_call fn17 rfl (new7_any (hg.mono0 hH) s hsd 1 h hR)) rfl ?_
        rintro _ w ⟨b_k, b_s, v_l, N_l, rfl, hO_l, hC⟩ a hA
        replace hH := HS.call0 hH hC
        clear hC
        have hshp : Shp v_l (2 ^ (h)) := by have := Own.shp hO_l; rwa [leavesK_length] at this
        refine sq hA (q_move rfl) rfl fun a hA => ?_
        refine sq hA (q_extract rfl rfl) rfl fun a hA => ?_
        refine sq hA (q_extract rfl rfl) rfl fun a hA => ?_
        refine sq hA (q_assign rfl) rfl fun a hA => ?_
        refine sq hA (q_assign rfl) rfl fun a hA => ?_
        refine wpList_nil ?_
        refine hK7 _ _ ?_
        clear hK7
        replace hA := hA.sub (E' := [(8, _), (7, _), (6, _), (1, _), (2, _)]) ⟨rfl, rfl, rfl, rfl, rfl, trivial⟩
        refine wp_seq_k fun K8 hK8 => ?_
        refine wp_region_lit ?_
        refine sq hA (q_assign rfl) rfl fun a hA => ?_
        refine wpList_nil ?_
        refine hK8 _ _ ?_
        clear hK8
        refine wp_seq_k fun K9 hK9 => ?_
        refine wp_seq_k fun K10 hK10 => ?_
        refine wp_region_lit ?_
        refine sq hA (q_assign rfl) rfl fun a hA => ?_
        refine wpList_nil ?_
        refine hK10 _ _ ?_
        clear hK10
        refine wp_block ?_
        replace hH := HS.fold [_, _, _] [_] hH
        obtain ⟨NR11, hNR11, hH⟩ := hH
        refine wp_loop_ghost (fun gm a w => ∃ i : Nat, ∃ x : Nat, ∃ last : Int, At 96 [(10, I i), (9, I last), (8, I 0), (7, (.pointer (some ⟨b_k, 0, none⟩))), (6, (.bool false)), (1, I h), (2, v)] a ∧ HS [] w0 w ([[(b_k, Obj.cells (keyC (.func (.func 38) #[] #[.pointer (some ⟨b_s, 0, none⟩)]) v_l (pubK s 1 h) ((1 : Nat) : Int) x).toArray 73 (0, 0))], [(b_s, Obj.cells (s.map B8).toArray 23 (0, 0))], N_l, NR11]) ∧ (i ≤ ac.length) ∧ (x ≤ 2 ^ h) ∧ (last < (x : Int)) ∧ gm = ac.length - i) (ac.length - (0)) ⟨0, 0, (-1), hA.sub ⟨rfl, rfl, rfl, rfl, rfl, rfl, rfl, trivial⟩, hH, by omega, by omega, by omega, rfl⟩ ?_
        clear hA hH
        rintro gm a w ⟨i, x, last, hA, hH, hi, hxq, hlast, rfl⟩
        refine wp_seq_k fun K12 hK12 => ?_
        refine wp_seq_k fun K13 hK13 => ?_
        refine wp_region_lit ?_
        refine sq hA (q_move rfl) rfl fun a hA => ?_
        refine sq hA (q_move rfl) rfl fun a hA => ?_
        refine sq hA (q_len Tryd.underlying48 rfl (Rd.shp hcs)) rfl fun a hA => ?_
        refine sq hA (q_lssI rfl rfl) rfl fun a hA => ?_
        refine wpList_nil ?_
        refine hK13 _ _ ?_
        clear hK13
        refine cond_d hA rfl (fun hc34 => ?_) (fun hc34 => ?_)
        · skip
          refine wp_skip ?_
          refine hK12 _ _ ?_
          clear hK12
          refine wp_seq_k fun K14 hK14 => ?_
          refine wp_block ?_
          refine wp_seq_k fun K15 hK15 => ?_
          refine wp_seq_k fun K16 hK16 => ?_
          refine wp_region_lit ?_
          refine sq hA (q_move rfl) rfl fun a hA => ?_
          refine sq hA (q_move rfl) rfl fun a hA => ?_
          refine sq hA (q_idxk (i) Tryd.underlying48 ti50 rfl rfl (by first | omega | rfl) (Rd.shp hcs) (by first | omega | (simp; done) | (simp; omega) | (rw [List.length_map]; assumption) | assumption | rfl | (simp [*]; done) | (simp [*]; omega))) rfl fun a hA => ?_
          refine sq hA (q_fldE 2 Tryd.underlying50 rfl rfl ti24 rfl) rfl fun a hA => ?_
          refine sq hA (q_loadR Tryd.underlying24 rfl rfl (hH.rd hcs) (by omega) (hat i (by first | omega | (simp; done) | (simp; omega) | (rw [List.length_map]; assumption) | assumption | rfl | (simp [*]; done) | (simp [*]; omega))).2.2.1) rfl fun a hA => ?_
          refine sq hA (q_len Tryd.underlying24 rfl (Rd.shp (hat (i) (by first | omega | (simp; done) | (simp; omega) | (rw [List.length_map]; assumption) | assumption | rfl | (simp [*]; done) | (simp [*]; omega))).2.2.2)) rfl fun a hA => ?_
          refine sq hA (q_gtrI (n := 200) rfl rfl) rfl fun a hA => ?_
          refine wpList_nil ?_
          refine hK16 _ _ ?_
          clear hK16
          refine cond_d hA rfl (fun hc43 => ?_) (fun hc43 => ?_)
          · skip
            refine wp_seq_k fun K17 hK17 => ?_
            refine wp_region_lit ?_
            refine sl hA (lo_call fn12 rfl (awake7_any (hg.mono0 hH))) rfl ?_
            rintro _ w ⟨rfl, hC⟩ a hA
            replace hH := HS.call0 hH hC
            clear hC
            refine sq hA (q_assign rfl) rfl fun a hA => ?_
            refine wpList_nil ?_
            refine hK17 _ _ ?_
            clear hK17
            refine wp_ret ?_
            refine then_ret ?_
            refine block_ret ?_
            refine then_ret ?_
            refine then_ret ?_
            refine block_ret ?_
            refine then_ret ?_
            replace hH := HS.unfold [_, _, _] hNR11 hH
            refine post_ret hA (res_1 rfl hA rfl) ?_
            replace hH := hH.pick [] (Hs' := []) rfl
            exact ⟨_, rfl, rfl, hH⟩
          · skip
            refine wp_skip ?_
            refine hK15 _ _ ?_
            clear hK15
            refine wp_seq_k fun K18 hK18 => ?_
            refine wp_seq_k fun K19 hK19 => ?_
            refine wp_region_lit ?_
            refine sq hA (q_move rfl) rfl fun a hA => ?_
            refine sq hA (q_move rfl) rfl fun a hA => ?_
            refine sq hA (q_idxk (i) Tryd.underlying48 ti50 rfl rfl (by first | omega | rfl) (Rd.shp hcs) (by first | omega | (simp; done) | (simp; omega) | (rw [List.length_map]; assumption) | assumption | rfl | (simp [*]; done) | (simp [*]; omega))) rfl fun a hA => ?_
            refine sq hA (q_fldE 0 Tryd.underlying50 rfl rfl ti3 rfl) rfl fun a hA => ?_
            refine sq hA (q_loadR Tryd.underlying3 rfl rfl (hH.rd hcs) (by omega) (hat i (by first | omega | (simp; done) | (simp; omega) | (rw [List.length_map]; assumption) | assumption | rfl | (simp [*]; done) | (simp [*]; omega))).1) rfl fun a hA => ?_
            refine sq hA (q_neqI (n := 0) rfl rfl) rfl fun a hA => ?_
            refine wpList_nil ?_
            refine hK19 _ _ ?_
            clear hK19
            refine cond_d hA rfl (fun hc50 => ?_) (fun hc50 => ?_)
            · skip
              refine wp_seq_k fun K20 hK20 => ?_
              refine wp_region_lit ?_
              refine sq hA (q_move rfl) rfl fun a hA => ?_
              refine sq hA (q_move rfl) rfl fun a hA => ?_
              refine sq hA (q_move rfl) rfl fun a hA => ?_
              refine sq hA (q_idxk (i) Tryd.underlying48 ti50 rfl rfl (by first | omega | rfl) (Rd.shp hcs) (by first | omega | (simp; done) | (simp; omega) | (rw [List.length_map]; assumption) | assumption | rfl | (simp [*]; done) | (simp [*]; omega))) rfl fun a hA => ?_
              refine sq hA (q_fldE 1 Tryd.underlying50 rfl rfl ti3 rfl) rfl fun a hA => ?_
              refine sq hA (q_loadR Tryd.underlying3 rfl rfl (hH.rd hcs) (by omega) (hat i (by first | omega | (simp; done) | (simp; omega) | (rw [List.length_map]; assumption) | assumption | rfl | (simp [*]; done) | (simp [*]; omega))).2.1) rfl fun a hA => ?_
              refine sl hA (lo_call fn23 rfl (skip7_any _ _ _ _ hPl _ _ _ hshp (by first | exact Nat.zero_le _ | omega | decide) (by first | assumption | omega | decide) ((ac.getD i dA).2.1) (HS.handed (Ns1 := [_]) hH))) rfl ?_
              rintro _ w ⟨rfl, hC⟩ a hA
              replace hH := HS.call (Ns1 := [_]) hH hC
              clear hC
              refine wpList_nil ?_
              refine hK20 _ _ ?_
              clear hK20
              replace hA := hA.sub (E' := [(56, _), (55, _), (54, _), (53, _), (52, _), (51, _), (50, _), (49, _), (48, _), (47, _), (46, _), (45, _), (43, _), (42, _), (41, _), (40, _), (39, _), (38, _), (37, _), (34, _), (33, _), (32, _), (31, _), (10, _), (9, _), (8, _), (7, _), (6, _), (1, _), (2, _)]) ⟨rfl, rfl, rfl, rfl, rfl, rfl, rfl, rfl, rfl, rfl, rfl, rfl, rfl, rfl, rfl, rfl, rfl, rfl, rfl, rfl, rfl, rfl, rfl, rfl, rfl, rfl, rfl, rfl, rfl, rfl, trivial⟩
              refine wp_exit ?_
              refine then_exit ?_
              refine exit_here ?_
              refine hK14 _ _ ?_
              clear hK14
              refine wp_region_lit ?_
              refine sq hA (q_move rfl) rfl fun a hA => ?_
              refine sq hA (q_addI (n := 1) rfl rfl (by omega)) rfl fun a hA => ?_
              refine sq hA (q_assign rfl) rfl fun a hA => ?_
              refine wpList_nil ?_
              exact ⟨_, by omega, i + 1, (skT (2 ^ h) x (ac.getD i dA).2.1).2, last, hA.sub ⟨rfl, rfl, rfl, rfl, rfl, rfl, rfl, trivial⟩, hH, by omega, by first | omega | exact skT_le hxq, by first | omega | (have h3 := skT_ge (q := 2 ^ h) (x := x) (to := (ac.getD i dA).2.1); omega), rfl⟩
            · skip
              refine wp_skip ?_
              refine hK18 _ _ ?_
              clear hK18
              refine wp_seq_k fun K21 hK21 => ?_
              refine wp_region_lit ?_
              refine sq hA (q_move rfl) rfl fun a hA => ?_
              refine sq hA (q_move rfl) rfl fun a hA => ?_
              refine sq hA (q_move rfl) rfl fun a hA => ?_
              refine sq hA (q_idxk (i) Tryd.underlying48 ti50 rfl rfl (by first | omega | rfl) (Rd.shp hcs) (by first | omega | (simp; done) | (simp; omega) | (rw [List.length_map]; assumption) | assumption | rfl | (simp [*]; done) | (simp [*]; omega))) rfl fun a hA => ?_
              refine sq hA (q_fldE 2 Tryd.underlying50 rfl rfl ti24 rfl) rfl fun a hA => ?_
              refine sq hA (q_loadR Tryd.underlying24 rfl rfl (hH.rd hcs) (by omega) (hat i (by first | omega | (simp; done) | (simp; omega) | (rw [List.length_map]; assumption) | assumption | rfl | (simp [*]; done) | (simp [*]; omega))).2.2.1) rfl fun a hA => ?_
              refine sl hA (lo_call fn14 rfl (own7_any _ _ (hH.rd (hat (i) (by first | omega | (simp; done) | (simp; omega) | (rw [List.length_map]; assumption) | assumption | rfl | (simp [*]; done) | (simp [*]; omega))).2.2.2) (by first | omega | (simp; done) | (simp; omega)))) rfl ?_
              rintro _ w ⟨v_t65, N_t65, rfl, hO_t65, hC⟩ a hA
              replace hH := HS.call0 hH hC
              clear hC
              rcases Nat.lt_or_ge x (2 ^ h) with hx | hx
              · skip
                replace hH := hH.pick [1, 0, 2, 3, 4] (Hs' := [_, _, _, _, _]) rfl
                refine sl hA (lo_call fn24 rfl (sign7_any (hg.mono0 hH) b_k b_s (hg.ng NG.nil hH) s hsd 1 h hR v_l (HS.boxDM (Ns1 := [_]) hH 1 rfl hsd) (Own.rdM hO_l (Ns1 := [_]) hH 2 rfl) x hx _ (ac.getD i dA).2.2 (Own.rdM hO_t65 (Ns1 := [_]) hH 0 rfl) (by first | omega | (simp; done) | (simp; omega)) (HS.handed (Ns1 := [_]) hH))) rfl ?_
                rintro _ w ⟨v_ot66, v_pt66, N_ot66, N_pt66, rfl, hOo_t66, hOp_t66, hC⟩ a hA
                replace hH := HS.call (Ns1 := [_]) hH hC
                clear hC
                have hdo_t66 := otsK_dg s 1 x (ac.getD i dA).2.2
                have hdp_t66 := pthK_dg s 1 (show x < 2 ^ h by first | assumption | omega | simp)
                have hlo_t66 := otsK_length s 1 x (ac.getD i dA).2.2
                have hlp_t66 := pthK_length s 1 h x
                refine sq hA (q_move rfl) rfl fun a hA => ?_
                refine sq hA (q_extract rfl rfl) rfl fun a hA => ?_
                refine sq hA (q_extract rfl rfl) rfl fun a hA => ?_
                refine sl hA (lo_allocA hH ti27) rfl ?_
                clear hH; rintro _ w ⟨b_t11, rfl, hH⟩ a hA
                refine s0 hA (lo_storeAm hH ti27 rfl rfl (rfl) (rfl) (ones_cons rfl (ones_cons (Own.one hOo_t66) (ones_cons (Own.one hOp_t66) ones_nil)))) ?_
                clear hH; rintro _ w hH
                refine sq hA (q_assign rfl) rfl fun a hA => ?_
                refine wpList_nil ?_
                refine hK21 _ _ ?_
                clear hK21
                refine wp_seq_k fun K22 hK22 => ?_
                refine wp_seq_k fun K23 hK23 => ?_
                refine wp_region_lit ?_
                refine sq hA (q_move rfl) rfl fun a hA => ?_
                refine sq hA (q_eqlI (n := 70) rfl rfl) rfl fun a hA => ?_
                refine wpList_nil ?_
                refine hK23 _ _ ?_
                clear hK23
                refine cond_d hA rfl (fun hnn => absurd hnn (by decide)) (fun _ => ?_)
                refine wp_skip ?_
                refine hK22 _ _ ?_
                clear hK22
                refine wp_seq_k fun K24 hK24 => ?_
                refine wp_seq_k fun K25 hK25 => ?_
                refine any_go mixed (fun _ => true) hH ?_
                clear hH; intro w hH
                have hS := hH
                change wpK _ _ _ _ _ _ 15 #[false, false, false, false, false, false, false, false, false, false, false, false, false, false, false] _ _
                refine apq hA 0 rfl (by kernel_rfl) (by intro c a d v w h; cases d <;> exact h) (fun w => (q_move rfl)) rfl (listed' := #[true, false, false, false, false, false, false, false, false, false, false, false, false, false, false]) rfl fun a hA => ?_
                refine apq hA 1 rfl (by kernel_rfl) (by intro c a d v w h; cases d <;> exact h) (fun w => (q_neqI (n := 0) rfl rfl)) rfl (listed' := #[true, true, false, false, false, false, false, false, false, false, false, false, false, false, false]) rfl fun a hA => ?_
                replace hA := hA.decF (by exact fun h => h rfl)
                refine apq hA 2 rfl (by kernel_rfl) (by intro c a d v w h; cases d <;> exact h) (fun w => (q_move rfl)) rfl (listed' := #[true, true, true, false, false, false, false, false, false, false, false, false, false, false, false]) rfl fun a hA => ?_
                refine apgq hA 3 rfl (by kernel_rfl) rfl rfl (by intro c a d v w h; cases d <;> exact h) (fun w => (q_fld 0 Tryd.underlying27 rfl rfl ti3 rfl)) rfl (listed' := #[true, true, true, true, false, false, false, false, false, false, false, false, false, false, false]) rfl fun a hA => ?_
                refine agq hA 4 rfl (by kernel_rfl) rfl rfl (by intro c a d v w h; cases d <;> exact h) hS (fun w hH => (q_loadB hH 0 rfl (List.mem_singleton.2 rfl) Tryd.underlying3 rfl rfl rfl)) rfl (listed' := #[true, true, true, true, true, false, false, false, false, false, false, false, false, false, false]) rfl fun a hA => ?_
                refine apgq hA 5 rfl (by kernel_rfl) rfl rfl (by intro c a d v w h; cases d <;> exact h) (fun w => (q_move rfl)) rfl (listed' := #[true, true, true, true, true, true, false, false, false, false, false, false, false, false, false]) rfl fun a hA => ?_
                refine apgq hA 6 rfl (by kernel_rfl) rfl rfl (by intro c a d v w h; cases d <;> exact h) (fun w => (q_leqI rfl rfl)) rfl (listed' := #[true, true, true, true, true, true, true, false, false, false, false, false, false, false, false]) rfl fun a hA => ?_
                replace hA := hA.decF (by omega)
                refine apq hA 7 rfl (by kernel_rfl) (by intro c a d v w h; cases d <;> exact h) (fun w => (q_pick_f rfl rfl)) rfl (listed' := #[true, true, true, true, true, true, true, true, false, false, false, false, false, false, false]) rfl fun a hA => ?_
                refine apq hA 8 rfl (by kernel_rfl) (by intro c a d v w h; cases d <;> exact h) (fun w => (q_move rfl)) rfl (listed' := #[true, true, true, true, true, true, true, true, true, false, false, false, false, false, false]) rfl fun a hA => ?_
                refine apgq hA 9 rfl (by kernel_rfl) rfl rfl (by intro c a d v w h; cases d <;> exact h) (fun w => (q_fld 0 Tryd.underlying27 rfl rfl ti3 rfl)) rfl (listed' := #[true, true, true, true, true, true, true, true, true, true, false, false, false, false, false]) rfl fun a hA => ?_
                refine agq hA 10 rfl (by kernel_rfl) rfl rfl (by intro c a d v w h; cases d <;> exact h) hS (fun w hH => (q_loadB hH 0 rfl (List.mem_singleton.2 rfl) Tryd.underlying3 rfl rfl rfl)) rfl (listed' := #[true, true, true, true, true, true, true, true, true, true, true, false, false, false, false]) rfl fun a hA => ?_
                refine apgq hA 11 rfl (by kernel_rfl) rfl rfl (by intro c a d v w h; cases d <;> exact h) (fun w => (q_move rfl)) rfl (listed' := #[true, true, true, true, true, true, true, true, true, true, true, true, false, false, false]) rfl fun a hA => ?_
                refine apgq hA 12 rfl (by kernel_rfl) rfl rfl (by intro c a d v w h; cases d <;> exact h) (fun w => (q_shlI (m := 1) (n := h) ((2 ^ h : Nat) : Int) rfl rfl (by omega) (by push_cast; rfl) (by omega))) rfl (listed' := #[true, true, true, true, true, true, true, true, true, true, true, true, true, false, false]) rfl fun a hA => ?_
                rw [Int.one_mul] at hA
                refine apgq hA 13 rfl (by kernel_rfl) rfl rfl (by intro c a d v w h; cases d <;> exact h) (fun w => (q_geqI rfl rfl)) rfl (listed' := #[true, true, true, true, true, true, true, true, true, true, true, true, true, true, false]) rfl fun a hA => ?_
                replace hA := hA.decF (by omega)
                refine apq hA 14 rfl (by kernel_rfl) (by intro c a d v w h; cases d <;> exact h) (fun w => (q_pick_f rfl rfl)) rfl (listed' := #[true, true, true, true, true, true, true, true, true, true, true, true, true, true, true]) rfl fun a hA => ?_
                refine a_end (by kernel_rfl) ?_ _
                refine hK25 _ _ ?_
                clear hK25
                refine cond_f hA rfl ?_
                refine wp_skip ?_
                refine hK24 _ _ ?_
                clear hK24
                refine wp_region_lit ?_
                refine sq hA (q_fld 0 Tryd.underlying27 rfl rfl ti3 rfl) rfl fun a hA => ?_
                refine sq hA (q_loadB hH 0 rfl (List.mem_singleton.2 rfl) Tryd.underlying3 rfl rfl rfl) rfl fun a hA => ?_
                refine sq hA (q_assign rfl) rfl fun a hA => ?_
                refine wpList_nil ?_
                refine block_normal ?_
                refine hK14 _ _ ?_
                clear hK14
                refine wp_region_lit ?_
                refine sq hA (q_move rfl) rfl fun a hA => ?_
                refine sq hA (q_addI (n := 1) rfl rfl (by omega)) rfl fun a hA => ?_
                refine sq hA (q_assign rfl) rfl fun a hA => ?_
                refine wpList_nil ?_
                replace hH := hH.pick [1, 5, 6, 7, 0, 2, 3, 4] (Hs' := [_, _, _, _, _, _, _, _]) rfl
                replace hH := hH.pick [0, 1, 2, 3] (Hs' := [_, _, _, _]) rfl
                exact ⟨_, by omega, i + 1, x + 1, (x : Int), hA.sub ⟨rfl, rfl, rfl, rfl, rfl, rfl, rfl, trivial⟩, hH, by omega, by first | omega | exact skT_le hxq, by first | omega | (have h3 := skT_ge (q := 2 ^ h) (x := x) (to := (ac.getD i dA).2.1); omega), rfl⟩
              · skip
                replace hx : x = 2 ^ h := by omega
                replace hH := hH.pick [1, 0, 2, 3, 4] (Hs' := [_, _, _, _, _]) rfl
                refine sl hA (lo_call fn24 rfl (sign7_end (hg.mono0 hH) b_k b_s (hg.ng NG.nil hH) s hsd 1 h hR v_l (HS.boxDM (Ns1 := [_]) hH 1 rfl hsd) (Own.rdM hO_l (Ns1 := [_]) hH 2 rfl) x hx _ (HS.handed (Ns1 := [_]) hH))) rfl ?_
                rintro _ w ⟨rfl, hC⟩ a hA
                replace hH := HS.call (Ns1 := [_]) hH hC
                clear hC
                refine sq hA (q_move rfl) rfl fun a hA => ?_
                refine sq hA (q_extract rfl rfl) rfl fun a hA => ?_
                refine sq hA (q_extract rfl rfl) rfl fun a hA => ?_
                refine sl hA (lo_allocA hH ti27) rfl ?_
                clear hH; rintro _ w ⟨b_t11, rfl, hH⟩ a hA
                refine s0 hA (lo_storeAm hH ti27 rfl rfl (rfl) (rfl) (ones_cons rfl (ones_cons rfl (ones_cons rfl ones_nil)))) ?_
                clear hH; rintro _ w hH
                refine sq hA (q_assign rfl) rfl fun a hA => ?_
                refine wpList_nil ?_
                refine hK21 _ _ ?_
                clear hK21
                refine wp_seq_k fun K26 hK26 => ?_
                refine wp_seq_k fun K27 hK27 => ?_
                refine wp_region_lit ?_
                refine sq hA (q_move rfl) rfl fun a hA => ?_
                refine sq hA (q_eqlI (n := 70) rfl rfl) rfl fun a hA => ?_
                refine wpList_nil ?_
                refine hK27 _ _ ?_
                clear hK27
                refine cond_d hA rfl (fun _ => ?_) (fun hnn => absurd (rfl) hnn)
                refine wp_seq_k fun K28 hK28 => ?_
                refine wp_seq_k fun K29 hK29 => ?_
                refine wp_region_lit ?_
                refine sq hA (q_move rfl) rfl fun a hA => ?_
                replace hH := hH.pick [1, 0, 2, 3, 4, 5] (Hs' := [_, _, _, _, _, _]) rfl
                refine sl hA (lo_call fn22 rfl (left7_any _ _ _ _ hPl _ _ _ hshp (by first | exact Nat.zero_le _ | omega | decide) (by first | assumption | omega | decide) (HS.handed (Ns1 := [_]) hH))) rfl ?_
                rintro _ w ⟨rfl, hC⟩ a hA
                replace hH := HS.call (Ns1 := [_]) hH hC
                clear hC
                refine sq hA (q_neqI (n := 0) rfl rfl) rfl fun a hA => ?_
                refine wpList_nil ?_
                refine hK29 _ _ ?_
                clear hK29
                refine cond_d hA rfl (fun hnn => absurd hnn (by rw [show 2 ^ h - x = 0 by omega]; simp)) (fun _ => ?_)
                refine wp_skip ?_
                refine hK28 _ _ ?_
                clear hK28
                refine wp_exit ?_
                refine then_exit ?_
                refine exit_here ?_
                refine hK14 _ _ ?_
                clear hK14
                refine wp_region_lit ?_
                refine sq hA (q_move rfl) rfl fun a hA => ?_
                refine sq hA (q_addI (n := 1) rfl rfl (by omega)) rfl fun a hA => ?_
                refine sq hA (q_assign rfl) rfl fun a hA => ?_
                refine wpList_nil ?_
                replace hH := hH.pick [0, 3, 4, 5, 1, 2] (Hs' := [_, _, _, _, _, _]) rfl
                replace hH := hH.pick [0, 1, 2, 3] (Hs' := [_, _, _, _]) rfl
                exact ⟨_, by omega, i + 1, x, last, hA.sub ⟨rfl, rfl, rfl, rfl, rfl, rfl, rfl, trivial⟩, hH, by omega, by first | omega | exact skT_le hxq, by first | omega | (have h3 := skT_ge (q := 2 ^ h) (x := x) (to := (ac.getD i dA).2.1); omega), rfl⟩
        · skip
          refine wp_exit ?_
          refine then_exit ?_
          replace hH := HS.unfold [_, _, _] hNR11 hH
          refine then_exit ?_
          refine exit_here ?_
          refine hK9 _ _ ?_
          clear hK9
          replace hA := hA.sub (E' := [(8, _), (6, _)]) ⟨rfl, rfl, trivial⟩
          refine wp_seq_k fun K30 hK30 => ?_
          refine wp_region_lit ?_
          refine sq hA (q_move rfl) rfl fun a hA => ?_
          refine sq hA (q_eqlI (n := 0) rfl rfl) rfl fun a hA => ?_
          replace hA := hA.decT (by first | rfl | omega | assumption | (simp; done) | (simp [*]; done))
          refine sq hA (q_move rfl) rfl fun a hA => ?_
          refine gl hA rfl rfl (lo_call fn12 rfl (awake7_any (hg.mono0 hH))) rfl ?_
          rintro _ w ⟨rfl, hC⟩ a hA
          replace hH := HS.call0 hH hC
          clear hC
          refine sq hA (q_pick_t rfl rfl) rfl fun a hA => ?_
          refine sq hA (q_assign rfl) rfl fun a hA => ?_
          refine wpList_nil ?_
          refine hK30 _ _ ?_
          clear hK30
          replace hA := hA.sub (E' := [(6, _)]) ⟨rfl, trivial⟩
          refine wp_ret ?_
          refine post_ret hA (res_1 rfl hA rfl) ?_
          replace hH := hH.pick [] (Hs' := []) rfl
          exact ⟨_, rfl, rfl, hH⟩

end Go.Proofs.YtipjpbfledddaaaDoor
