/- Layer 2 (sha): the law ShaSplits. -/
import Derived.Test.YtegjkoohpkchbaaDoorBf
namespace Go.Proofs.YtegjkoohpkchbaaDoor
open Go
set_option linter.unusedVariables false
set_option linter.unusedSimpArgs false
set_option maxRecDepth 100000

/-- the bytes at a place -/
def atL (ls : List Bs) (i : Nat) : Bs := ls.getD i []
theorem getD_some {α : Type} (l : List α) (d : α) {i : Nat} (hi : i < l.length) : l[i]? = some (l.getD i d) := by simp [List.getD, hi]
theorem shaSplits_any {w0 : World} {lv : Nat} (hg : Gl lv w0) (v : Value) (hs : List Value) (ls : List Bs) (hrd : Rd [] w0 v hs.length 1 hs) (hrr : ∀ i, i < hs.length → By [] w0 (hs.getD i (.slice none 0 0)) (atL ls i)) (hls : hs.length ≤ 1048576) :
    Calls Tryd.prog 6 #[v] w0 (Ret fun r w' => r = .bool true ∧ HS [] w0 w' []) := by
  have hH := HS.start w0
  refine start (n := 70) (E := [(0, _)]) Tryd.func6 rfl rfl rfl (args_look rfl) ?_
  intro a hA
  refine wp_seq_k fun K1 hK1 => ?_
  refine wp_region_lit ?_
  refine sq hA (q_assign rfl) rfl fun a hA => ?_
  refine wpList_nil ?_
  refine hK1 _ _ ?_
  clear hK1
  refine wp_seq_k fun K2 hK2 => ?_
  refine wp_seq_k fun K3 hK3 => ?_
  refine wp_region_lit ?_
  refine sq hA (q_move rfl) rfl fun a hA => ?_
  refine sq hA (q_len Tryd.underlying40 rfl (Rd.shp hrd)) rfl fun a hA => ?_
  refine sq hA (q_gtrI (n := 30) rfl rfl) rfl fun a hA => ?_
  refine wpList_nil ?_
  refine hK3 _ _ ?_
  clear hK3
  replace hA := hA.sub (E' := [(8, _), (2, _), (0, _)]) ⟨rfl, rfl, rfl, trivial⟩
  refine cond_d hA rfl (fun hc8 => ?_) (fun hc8 => ?_)
  · skip
    refine wp_seq_k fun K4 hK4 => ?_
    refine wp_region_lit ?_
    refine sl hA (lo_call fn15 rfl (awake_any (hg.mono0 hH))) rfl ?_
    rintro _ w ⟨rfl, hC⟩ a hA
    replace hH := HS.call0 hH hC
    clear hC
    refine sq hA (q_assign rfl) rfl fun a hA => ?_
    refine wpList_nil ?_
    refine hK4 _ _ ?_
    clear hK4
    replace hA := hA.sub (E' := [(2, _), (0, _)]) ⟨rfl, rfl, trivial⟩
    refine wp_ret ?_
    refine then_ret ?_
    refine post_ret hA (res_1 rfl hA rfl) ?_
    exact ⟨_, rfl, rfl, hH⟩
  · skip
    refine wp_skip ?_
    refine hK2 _ _ ?_
    clear hK2
    replace hA := hA.sub (E' := [(2, _), (0, _)]) ⟨rfl, rfl, trivial⟩
    refine wp_seq_k fun K5 hK5 => ?_
    refine wp_region_lit ?_
    refine sl hA (lo_call fn23 rfl (new_any (hg.mono0 hH))) rfl ?_
    rintro _ w ⟨b_t10, N_t10, rfl, hO_t10, hC⟩ a hA
    replace hH := HS.call0 hH hC
    clear hC
    refine sq hA (q_assign rfl) rfl fun a hA => ?_
    refine wpList_nil ?_
    refine hK5 _ _ ?_
    clear hK5
    replace hA := hA.sub (E' := [(3, _), (2, _), (0, _)]) ⟨rfl, rfl, rfl, trivial⟩
    refine wp_seq_k fun K6 hK6 => ?_
    refine wp_region_lit ?_
    refine sq hA (q_assign rfl) rfl fun a hA => ?_
    refine wpList_nil ?_
    refine hK6 _ _ ?_
    clear hK6
    refine wp_seq_k fun K7 hK7 => ?_
    refine wp_seq_k fun K8 hK8 => ?_
    refine wp_region_lit ?_
    refine sq hA (q_assign rfl) rfl fun a hA => ?_
    refine wpList_nil ?_
    refine hK8 _ _ ?_
    clear hK8
    refine wp_block ?_
    replace hH := hH.nilFront
    refine wp_loop_ghost (fun gm a w => ∃ i : Nat, ∃ m : Bs, ∃ v_all : Value, ∃ N_all : Hl, ∃ N_t10 : Hl, At 70 [(5, I i), (4, v_all), (3, (.pointer (some ⟨b_t10, 0, none⟩))), (2, (.bool false)), (0, v)] a ∧ HS [] w0 w ([N_all, N_t10]) ∧ (i ≤ hs.length) ∧ (m.length ≤ 2000) ∧ (Ow B8 5 v_all m N_all) ∧ (HashM 72 5 b_t10 m N_t10) ∧ gm = hs.length - i) (hs.length - (0)) ⟨0, [], (.slice none 0 0), [], N_t10, hA.sub ⟨rfl, rfl, rfl, rfl, rfl, trivial⟩, hH, by omega, by simp, by exact Ow.nil B8 _, by exact hO_t10, rfl⟩ ?_
    clear hA hH
    rintro gm a w ⟨i, m, v_all, N_all, N_t10, hA, hH, hi, hml, hO_all, hO_t10, rfl⟩
    refine wp_seq_k fun K9 hK9 => ?_
    refine wp_seq_k fun K10 hK10 => ?_
    refine wp_region_lit ?_
    refine sq hA (q_move rfl) rfl fun a hA => ?_
    refine sq hA (q_move rfl) rfl fun a hA => ?_
    refine sq hA (q_len Tryd.underlying40 rfl (Rd.shp hrd)) rfl fun a hA => ?_
    refine sq hA (q_lssI rfl rfl) rfl fun a hA => ?_
    refine wpList_nil ?_
    refine hK10 _ _ ?_
    clear hK10
    refine cond_d hA rfl (fun hc14 => ?_) (fun hc14 => ?_)
    · skip
      have hri := hrr i (by omega)
      refine wp_skip ?_
      refine hK9 _ _ ?_
      clear hK9
      refine wp_seq_k fun K11 hK11 => ?_
      refine wp_block ?_
      refine wp_seq_k fun K12 hK12 => ?_
      refine wp_seq_k fun K13 hK13 => ?_
      refine wp_region_lit ?_
      refine sq hA (q_move rfl) rfl fun a hA => ?_
      refine sq hA (q_move rfl) rfl fun a hA => ?_
      refine sq hA (q_idx1 _ Tryd.underlying40 ti22 rfl rfl (rfl) (Rd.shp hrd) (by first | omega | (simp; done) | (simp; omega) | (simp [*]; done) | (simp [*]; omega))) rfl fun a hA => ?_
      refine sq hA (q_loadR Tryd.underlying22 rfl rfl (hH.rd hrd) (by omega) (getD_some hs (.slice none 0 0) (by omega))) rfl fun a hA => ?_
      refine sq hA (q_len Tryd.underlying22 rfl (Rd.shp hri)) rfl fun a hA => ?_
      rcases Classical.em (1000 < (atL ls i).length) with hs22 | hs22
      · skip
        refine sq hA (Runs.bt (q_gtrI (n := 1000) rfl rfl) (by omega)) rfl fun a hA => ?_
        refine sq hA (q_move rfl) rfl fun a hA => ?_
        refine gs hA rfl rfl rfl rfl fun a hA => ?_
        refine gs hA rfl rfl rfl rfl fun a hA => ?_
        refine gs hA rfl rfl rfl rfl fun a hA => ?_
        refine sq hA (q_pick_t rfl rfl) rfl fun a hA => ?_
        refine wpList_nil ?_
        refine hK13 _ _ ?_
        clear hK13
        refine cond_t hA rfl ?_
        refine wp_seq_k fun K14 hK14 => ?_
        refine wp_region_lit ?_
        refine sl hA (lo_call fn15 rfl (awake_any (hg.mono0 hH))) rfl ?_
        rintro _ w ⟨rfl, hC⟩ a hA
        replace hH := HS.call0 hH hC
        clear hC
        refine sq hA (q_assign rfl) rfl fun a hA => ?_
        refine wpList_nil ?_
        refine hK14 _ _ ?_
        clear hK14
        refine wp_ret ?_
        refine then_ret ?_
        refine block_ret ?_
        refine then_ret ?_
        refine then_ret ?_
        refine block_ret ?_
        refine then_ret ?_
        refine post_ret hA (res_1 rfl hA rfl) ?_
        replace hH := hH.pick [] (Hs' := []) rfl
        exact ⟨_, rfl, rfl, hH⟩
      · skip
        refine sq hA (Runs.bf (q_gtrI (n := 1000) rfl rfl) (by omega)) rfl fun a hA => ?_
        refine sq hA (q_move rfl) rfl fun a hA => ?_
        refine gq hA rfl rfl (q_move rfl) rfl fun a hA => ?_
        refine gq hA rfl rfl (q_len Tryd.underlying22 rfl (Own.shp hO_all)) rfl fun a hA => ?_
        rcases Classical.em (1000 < m.length) with hs26 | hs26
        · skip
          refine gq hA rfl rfl (Runs.bt (q_gtrI (n := 1000) rfl rfl) (by omega)) rfl fun a hA => ?_
          refine sq hA (q_pick_f rfl rfl) rfl fun a hA => ?_
          refine wpList_nil ?_
          refine hK13 _ _ ?_
          clear hK13
          refine cond_t hA rfl ?_
          refine wp_seq_k fun K15 hK15 => ?_
          refine wp_region_lit ?_
          refine sl hA (lo_call fn15 rfl (awake_any (hg.mono0 hH))) rfl ?_
          rintro _ w ⟨rfl, hC⟩ a hA
          replace hH := HS.call0 hH hC
          clear hC
          refine sq hA (q_assign rfl) rfl fun a hA => ?_
          refine wpList_nil ?_
          refine hK15 _ _ ?_
          clear hK15
          refine wp_ret ?_
          refine then_ret ?_
          refine block_ret ?_
          refine then_ret ?_
          refine then_ret ?_
          refine block_ret ?_
          refine then_ret ?_
          refine post_ret hA (res_1 rfl hA rfl) ?_
          replace hH := hH.pick [] (Hs' := []) rfl
          exact ⟨_, rfl, rfl, hH⟩
        · skip
          refine gq hA rfl rfl (Runs.bf (q_gtrI (n := 1000) rfl rfl) (by omega)) rfl fun a hA => ?_
          refine sq hA (q_pick_f rfl rfl) rfl fun a hA => ?_
          refine wpList_nil ?_
          refine hK13 _ _ ?_
          clear hK13
          refine cond_f hA rfl ?_
          refine wp_skip ?_
          refine hK12 _ _ ?_
          clear hK12
          refine wp_seq_k fun K16 hK16 => ?_
          refine wp_region_lit ?_
          refine sq hA (q_move rfl) rfl fun a hA => ?_
          refine sl hA (lo_bs (f := B8) (e := 5) ([]) hH rfl rfl (fun w => by kernel_rfl)) rfl ?_
          clear hH; rintro v_t30 w ⟨N_t30, hO_t30, hH⟩ a hA
          refine sq hA (q_move rfl) rfl fun a hA => ?_
          refine sq hA (q_move rfl) rfl fun a hA => ?_
          refine sq hA (q_idx1 _ Tryd.underlying40 ti22 rfl rfl (rfl) (Rd.shp hrd) (by first | omega | (simp; done) | (simp; omega) | (simp [*]; done) | (simp [*]; omega))) rfl fun a hA => ?_
          refine sq hA (q_loadR Tryd.underlying22 rfl rfl (hH.rd hrd) (by omega) (getD_some hs (.slice none 0 0) (by omega))) rfl fun a hA => ?_
          refine sl hA (lo_appm hH Tryd.underlying22 Tryd.underlying22 (.inl rfl) ti5 rfl rfl rfl hO_t30 (Rd.src (hH.rd hri)) (one_B8 _) (by first | omega | (simp; done) | (simp; omega)) (by first | omega | (simp; done) | (simp; omega))) rfl ?_
          clear hH; rintro v_t35 w ⟨N_t35, hO_t35, hH⟩ a hA
          replace hH := hH.pick [2, 0, 1] (Hs' := [_, _, _]) rfl
          refine sl hA (lo_call fn24 rfl (write_any (hg.mono hH NG.nil) (doms [N_t10]) (hg.ng NG.nil hH) b_t10 (m) ([] ++ atL ls i) _ N_t10 hO_t10 (Own.rdM hO_t35 (Ns1 := [_]) hH 0 rfl) (by first | (simp; omega) | omega) (HS.handed (Ns1 := [_]) hH))) rfl ?_
          rintro _ w ⟨rfl, N_t10, hO_t10, hC⟩ a hA
          replace hH := HS.call (Ns1 := [_]) hH hC
          clear hC
          refine wpList_nil ?_
          refine hK16 _ _ ?_
          clear hK16
          replace hA := hA.sub (E' := [(35, _), (34, _), (33, _), (32, _), (31, _), (30, _), (29, _), (27, _), (26, _), (25, _), (24, _), (23, _), (22, _), (21, _), (20, _), (19, _), (18, _), (17, _), (14, _), (13, _), (12, _), (11, _), (5, _), (4, _), (3, _), (2, _), (0, _)]) ⟨rfl, rfl, rfl, rfl, rfl, rfl, rfl, rfl, rfl, rfl, rfl, rfl, rfl, rfl, rfl, rfl, rfl, rfl, rfl, rfl, rfl, rfl, rfl, rfl, rfl, rfl, rfl, trivial⟩
          refine wp_seq_k fun K17 hK17 => ?_
          refine wp_region_lit ?_
          refine sq hA (q_move rfl) rfl fun a hA => ?_
          refine sq hA (q_move rfl) rfl fun a hA => ?_
          refine sq hA (q_move rfl) rfl fun a hA => ?_
          refine sq hA (q_idx1 _ Tryd.underlying40 ti22 rfl rfl (rfl) (Rd.shp hrd) (by first | omega | (simp; done) | (simp; omega) | (simp [*]; done) | (simp [*]; omega))) rfl fun a hA => ?_
          refine sq hA (q_loadR Tryd.underlying22 rfl rfl (hH.rd hrd) (by omega) (getD_some hs (.slice none 0 0) (by omega))) rfl fun a hA => ?_
          replace hH := hH.pick [2, 0, 1] (Hs' := [_, _, _]) rfl
          refine sl hA (lo_appm hH Tryd.underlying22 Tryd.underlying22 (.inl rfl) ti5 rfl rfl rfl hO_all (Rd.src (hH.rd hri)) (one_B8 _) (by first | omega | (simp; omega)) (by first | omega | (simp; omega))) rfl ?_
          clear hH; rintro v_t42 w ⟨N_t42, hO_t42, hH⟩ a hA
          refine sq hA (q_assign rfl) rfl fun a hA => ?_
          refine wpList_nil ?_
          refine hK17 _ _ ?_
          clear hK17
          refine wp_seq_k fun K18 hK18 => ?_
          refine wp_region_lit ?_
          refine sq hA (q_move rfl) rfl fun a hA => ?_
          refine sq hA (q_remI (n := 3) rfl rfl (by omega)) rfl fun a hA => ?_
          rcases Classical.em (i % 3 = 1) with hs45 | hs45
          · skip
            refine sq hA (Runs.bt (q_eqlI (n := 1) rfl rfl) (by omega)) rfl fun a hA => ?_
            refine sq hA (q_move rfl) rfl fun a hA => ?_
            refine gq hA rfl rfl (q_move rfl) rfl fun a hA => ?_
            refine gl hA rfl rfl (lo_call fn25 rfl (hsum_any (hg.mono0 hH) b_t10 (m ++ ([] ++ atL ls i)) N_t10 hO_t10 (RO.of hH 1 rfl) (by simp; omega))) rfl ?_
            rintro _ w ⟨rfl, hC⟩ a hA
            replace hH := HS.call0 hH hC
            clear hC
            refine gl hA rfl rfl (lo_bs (f := B8) (e := 5) ([]) hH rfl rfl (fun w => by kernel_rfl)) rfl ?_
            clear hH; rintro v_t49 w ⟨N_t49, hO_t49, hH⟩ a hA
            refine gq hA rfl rfl (q_move rfl) rfl fun a hA => ?_
            refine gl hA rfl rfl (lo_appm hH Tryd.underlying22 Tryd.underlying22 (.inl rfl) ti5 rfl rfl rfl hO_t49 (Rd.src (Own.rd0 hO_t42 hH 1 rfl)) (one_B8 _) (by first | omega | (simp; done) | (simp; omega)) (by first | omega | (simp; done) | (simp; omega))) rfl ?_
            clear hH; rintro v_t51 w ⟨N_t51, hO_t51, hH⟩ a hA
            refine gl hA rfl rfl (lo_call fn16 rfl (sum_any (hg.mono0 hH) _ (m ++ atL ls i) (Own.rd0 hO_t51 hH 0 rfl) (by simp; omega))) rfl ?_
            rintro _ w ⟨rfl, hC⟩ a hA
            replace hH := HS.call0 hH hC
            clear hC
            refine gq hA rfl rfl (Runs.bf (q_neqA8 eqa25 rfl rfl rfl rfl (by first | rfl | assumption | exact sha_length _ | (simp; done) | (simp [*]; done)) (by first | rfl | assumption | exact sha_length _ | (simp; done) | (simp [*]; done))) (fun h => h rfl)) rfl fun a hA => ?_
            refine sq hA (q_pick_t rfl rfl) rfl fun a hA => ?_
            refine sq hA (q_move rfl) rfl fun a hA => ?_
            refine gq hA rfl rfl (q_move rfl) rfl fun a hA => ?_
            refine gl hA rfl rfl (lo_call fn26 rfl (len_any b_t10 (m ++ ([] ++ atL ls i)) N_t10 hO_t10 (RO.of hH 2 rfl))) rfl ?_
            rintro _ w ⟨rfl, hC⟩ a hA
            replace hH := HS.call0 hH hC
            clear hC
            refine gq hA rfl rfl (q_move rfl) rfl fun a hA => ?_
            refine gq hA rfl rfl (q_len Tryd.underlying22 rfl (Own.shp hO_t42)) rfl fun a hA => ?_
            refine gq hA rfl rfl (Runs.bf (q_neqI rfl rfl) (by first | (simp; done) | exact fun h => h rfl | omega)) rfl fun a hA => ?_
            refine sq hA (q_pick_f rfl rfl) rfl fun a hA => ?_
            refine wpList_nil ?_
            refine hK18 _ _ ?_
            clear hK18
            refine cond_f hA rfl ?_
            refine wp_skip ?_
            refine block_normal ?_
            refine hK11 _ _ ?_
            clear hK11
            refine wp_region_lit ?_
            refine sq hA (q_move rfl) rfl fun a hA => ?_
            refine sq hA (q_addI (n := 1) rfl rfl (by omega)) rfl fun a hA => ?_
            refine sq hA (q_assign rfl) rfl fun a hA => ?_
            refine wpList_nil ?_
            replace hH := hH.pick [1, 2, 0, 3] (Hs' := [_, _, _, _]) rfl
            replace hH := hH.pick [0, 1] (Hs' := [_, _]) rfl
            exact ⟨_, by omega, i + 1, m ++ atL ls i, v_t42, N_t42, N_t10, hA.sub ⟨rfl, rfl, rfl, rfl, rfl, trivial⟩, hH, by omega, by first | omega | (simp; omega) | (rw [List.length_append]; omega), by exact hO_t42, by exact hO_t10, rfl⟩
          · skip
            refine sq hA (Runs.bf (q_eqlI (n := 1) rfl rfl) (by omega)) rfl fun a hA => ?_
            refine sq hA (q_move rfl) rfl fun a hA => ?_
            refine gs hA rfl rfl rfl rfl fun a hA => ?_
            refine gs hA rfl rfl rfl rfl fun a hA => ?_
            refine gs hA rfl rfl rfl rfl fun a hA => ?_
            refine gs hA rfl rfl rfl rfl fun a hA => ?_
            refine gs hA rfl rfl rfl rfl fun a hA => ?_
            refine gs hA rfl rfl rfl rfl fun a hA => ?_
            refine gs hA rfl rfl rfl rfl fun a hA => ?_
            refine sq hA (q_pick_f rfl rfl) rfl fun a hA => ?_
            refine sq hA (q_move rfl) rfl fun a hA => ?_
            refine gq hA rfl rfl (q_move rfl) rfl fun a hA => ?_
            refine gl hA rfl rfl (lo_call fn26 rfl (len_any b_t10 (m ++ ([] ++ atL ls i)) N_t10 hO_t10 (RO.of hH 1 rfl))) rfl ?_
            rintro _ w ⟨rfl, hC⟩ a hA
            replace hH := HS.call0 hH hC
            clear hC
            refine gq hA rfl rfl (q_move rfl) rfl fun a hA => ?_
            refine gq hA rfl rfl (q_len Tryd.underlying22 rfl (Own.shp hO_t42)) rfl fun a hA => ?_
            refine gq hA rfl rfl (Runs.bf (q_neqI rfl rfl) (by first | (simp; done) | exact fun h => h rfl | omega)) rfl fun a hA => ?_
            refine sq hA (q_pick_f rfl rfl) rfl fun a hA => ?_
            refine wpList_nil ?_
            refine hK18 _ _ ?_
            clear hK18
            refine cond_f hA rfl ?_
            refine wp_skip ?_
            refine block_normal ?_
            refine hK11 _ _ ?_
            clear hK11
            refine wp_region_lit ?_
            refine sq hA (q_move rfl) rfl fun a hA => ?_
            refine sq hA (q_addI (n := 1) rfl rfl (by omega)) rfl fun a hA => ?_
            refine sq hA (q_assign rfl) rfl fun a hA => ?_
            refine wpList_nil ?_
            replace hH := hH.pick [0, 1] (Hs' := [_, _]) rfl
            exact ⟨_, by omega, i + 1, m ++ atL ls i, v_t42, N_t42, N_t10, hA.sub ⟨rfl, rfl, rfl, rfl, rfl, trivial⟩, hH, by omega, by first | omega | (simp; omega) | (rw [List.length_append]; omega), by exact hO_t42, by exact hO_t10, rfl⟩
    · skip
      refine wp_exit ?_
      refine then_exit ?_
      refine then_exit ?_
      refine exit_here ?_
      refine hK7 _ _ ?_
      clear hK7
      replace hA := hA.sub (E' := [(4, _), (3, _), (2, _)]) ⟨rfl, rfl, rfl, trivial⟩
      refine wp_seq_k fun K19 hK19 => ?_
      refine wp_region_lit ?_
      refine sq hA (q_move rfl) rfl fun a hA => ?_
      refine sl hA (lo_call fn25 rfl (hsum_any (hg.mono0 hH) b_t10 (m) N_t10 hO_t10 (RO.of hH 1 rfl) (by omega))) rfl ?_
      rintro _ w ⟨rfl, hC⟩ a hA
      replace hH := HS.call0 hH hC
      clear hC
      refine sq hA (q_move rfl) rfl fun a hA => ?_
      refine sl hA (lo_call fn16 rfl (sum_any (hg.mono0 hH) _ (m) (Own.rd0 hO_all hH 0 rfl) (by omega))) rfl ?_
      rintro _ w ⟨rfl, hC⟩ a hA
      replace hH := HS.call0 hH hC
      clear hC
      refine sq hA (Runs.bt (q_eqlA8 eqa25 rfl rfl rfl rfl (by first | rfl | assumption | exact sha_length _ | (simp; done) | (simp [*]; done)) (by first | rfl | assumption | exact sha_length _ | (simp; done) | (simp [*]; done))) (by rfl)) rfl fun a hA => ?_
      refine sq hA (q_move rfl) rfl fun a hA => ?_
      refine gl hA rfl rfl (lo_call fn15 rfl (awake_any (hg.mono0 hH))) rfl ?_
      rintro _ w ⟨rfl, hC⟩ a hA
      replace hH := HS.call0 hH hC
      clear hC
      refine sq hA (q_pick_t rfl rfl) rfl fun a hA => ?_
      refine sq hA (q_assign rfl) rfl fun a hA => ?_
      refine wpList_nil ?_
      refine hK19 _ _ ?_
      clear hK19
      replace hA := hA.sub (E' := [(2, _)]) ⟨rfl, trivial⟩
      refine wp_ret ?_
      refine post_ret hA (res_1 rfl hA rfl) ?_
      replace hH := hH.pick [] (Hs' := []) rfl
      exact ⟨_, rfl, rfl, hH⟩

end Go.Proofs.YtegjkoohpkchbaaDoor
