/- Layer 11 (frame): scanning; the same rows. -/
import Derived.Test.YtokcbfklogjnfaaDoorGa
namespace Go.Proofs.YtokcbfklogjnfaaDoor
open Go
set_option linter.unusedVariables false
set_option linter.unusedSimpArgs false
set_option maxRecDepth 100000

theorem own11_any {w0 : World} (v : Value) (l : Bs) (hr : By [] w0 v l) (hl : l.length ≤ 1048576) :
    Calls Tryd.prog 15 #[v] w0 (Ret fun r w' => ∃ v' N, v' = r ∧ Ow B8 5 v' l N ∧ HS [] w0 w' [N]) := by
  have hH := HS.start w0
  refine start (n := 6) (E := [(0, _)]) Tryd.func15 rfl rfl rfl (args_look rfl) ?_
  intro a hA
  refine wp_seq_k fun K1 hK1 => ?_
  refine wp_region_lit ?_
  refine sq hA (q_assign rfl) rfl fun a hA => ?_
  refine wpList_nil ?_
  refine hK1 _ _ ?_
  clear hK1
  refine wp_seq_k fun K2 hK2 => ?_
  refine wp_region_lit ?_
  refine sl hA (lo_bs (f := B8) (e := 5) ([]) hH rfl rfl (fun w => by kernel_rfl)) rfl ?_
  clear hH; rintro v_t3 w ⟨N_t3, hO_t3, hH⟩ a hA
  refine sq hA (q_move rfl) rfl fun a hA => ?_
  refine sl hA (lo_appm hH Tryd.underlying22 Tryd.underlying22 (.inl rfl) ti5 rfl rfl rfl hO_t3 (Rd.src (hH.rd hr)) (one_B8 _) (by first | omega | (simp; done) | (simp; omega)) (by first | omega | (simp; done) | (simp; omega))) rfl ?_
  clear hH; rintro v_t5 w ⟨N_t5, hO_t5, hH⟩ a hA
  refine sq hA (q_assign rfl) rfl fun a hA => ?_
  refine wpList_nil ?_
  refine hK2 _ _ ?_
  clear hK2
  replace hA := hA.sub (E' := [(2, _)]) ⟨rfl, trivial⟩
  refine wp_ret ?_
  refine post_ret hA (res_1 rfl hA rfl) ?_
  exact ⟨_, rfl, v_t5, N_t5, rfl, hO_t5, hH⟩

theorem refscan_any {w0 : World} {lv : Nat} (hg : Gl (lv + 2) w0) (v : Value) (l : Bs) (hr : By [] w0 v l) (hl : l.length ≤ 1000000) :
    Calls Tryd.prog 19 #[v] w0 (Ret fun r w' => ∃ v' Nr Nd, r = .tuple #[v', I (scanV l).2] ∧ RowsH 22 v' (scanV l).1 Nr Nd ∧ HS [] w0 w' [Nr, Nd]) := by
  have hH := HS.start w0
  refine start (n := 28) (E := [(0, _)]) Tryd.func19 rfl rfl rfl (args_look rfl) ?_
  intro a hA
  refine wp_seq_k fun K1 hK1 => ?_
  refine wp_region_lit ?_
  refine sq hA (q_assign rfl) rfl fun a hA => ?_
  refine sq hA (q_assign rfl) rfl fun a hA => ?_
  refine wpList_nil ?_
  refine hK1 _ _ ?_
  clear hK1
  refine wp_seq_k fun K2 hK2 => ?_
  refine wp_region_lit ?_
  refine sq hA (q_assign rfl) rfl fun a hA => ?_
  refine wpList_nil ?_
  refine hK2 _ _ ?_
  clear hK2
  refine wp_seq_k fun K3 hK3 => ?_
  refine wp_region_lit ?_
  refine sq hA (q_assign rfl) rfl fun a hA => ?_
  refine wpList_nil ?_
  refine hK3 _ _ ?_
  clear hK3
  refine wp_block ?_
  replace hH := hH.nilFront
  replace hH := hH.nilFront
  replace hH := hH.pick [1, 0] (Hs' := [_, _]) rfl
  refine wp_loop_ghost (fun gm a w => ∃ i : Nat, ∃ v_o : Value, ∃ N_o : Hl, ∃ N_od : Hl, At 28 [(5, I (scN l i).2), (4, v_o), (3, (I 0)), (2, (.slice none 0 0)), (0, v)] a ∧ HS [] w0 w ([N_o, N_od]) ∧ (RowsH 22 v_o (scN l i).1 N_o N_od) ∧ gm = l.length - (scN l i).2) (l.length - (scN l (0)).2) ⟨0, nilV, [], [], hA.sub ⟨rfl, rfl, rfl, rfl, rfl, trivial⟩, hH, by exact RowsH.nil _, rfl⟩ ?_
  clear hA hH
  rintro gm a w ⟨i, v_o, N_o, N_od, hA, hH, hR_o, rfl⟩
  have hle := scN_le l i
  obtain ⟨z, hz⟩ : ∃ z, z = (scN l i).2 := ⟨_, rfl⟩
  rw [← hz] at hA hle
  refine wp_block ?_
  refine wp_seq_k fun K4 hK4 => ?_
  refine wp_region_lit ?_
  refine sq hA (q_move rfl) rfl fun a hA => ?_
  refine sq hA (q_move rfl) rfl fun a hA => ?_
  obtain ⟨v_t12, hv_t12, hP_t12⟩ := By.pieceE (Rd.shp hr) (z) (by omega) rfl
  refine sq hA (q_slice Tryd.underlying22 ti5 rfl (z) (_) hv_t12 (Rd.shp hr) rfl rfl (rfl) (by first | rfl | (simp; done) | omega) (by omega) (by omega)) rfl fun a hA => ?_
  refine sl hA (lo_call fn40 rfl (first_any (hg.mono0 hH) _ (l.drop z) (hH.rd (hP_t12 _ _ hr)) (by rw [List.length_drop]; omega))) rfl ?_
  rintro _ w ⟨v_t13, N_t13, m_t13, rfl, hF_t13, hC⟩ a hA
  replace hH := HS.call0 hH hC
  clear hC
  rcases hf : frV (l.drop z) with _ | ⟨x, n⟩
  · skip
    rw [hf] at hA
    have hst : scanV l = scN l i := scanV_of (by rw [← hz]; exact hf)
    refine sq hA (q_move rfl) rfl fun a hA => ?_
    refine sq hA (q_extract rfl rfl) rfl fun a hA => ?_
    refine sq hA (q_extract rfl rfl) rfl fun a hA => ?_
    refine sq hA (q_extract rfl rfl) rfl fun a hA => ?_
    refine sq hA (q_assign rfl) rfl fun a hA => ?_
    refine sq hA (q_assign rfl) rfl fun a hA => ?_
    refine sq hA (q_assign rfl) rfl fun a hA => ?_
    refine wpList_nil ?_
    refine hK4 _ _ ?_
    clear hK4
    refine wp_seq_k fun K5 hK5 => ?_
    refine wp_seq_k fun K6 hK6 => ?_
    refine wp_region_lit ?_
    refine sq hA (q_move rfl) rfl fun a hA => ?_
    refine sq hA (q_not rfl) rfl fun a hA => ?_
    refine wpList_nil ?_
    refine hK6 _ _ ?_
    clear hK6
    refine cond_t hA rfl ?_
    refine wp_seq_k fun K7 hK7 => ?_
    refine wp_region_lit ?_
    refine sq hA (q_move rfl) rfl fun a hA => ?_
    refine sq hA (q_move rfl) rfl fun a hA => ?_
    refine sq hA (q_assign rfl) rfl fun a hA => ?_
    refine sq hA (q_assign rfl) rfl fun a hA => ?_
    refine wpList_nil ?_
    refine hK7 _ _ ?_
    clear hK7
    refine wp_ret ?_
    refine then_ret ?_
    refine block_ret ?_
    refine then_ret ?_
    refine block_ret ?_
    refine post_ret hA (res_2 rfl hA rfl rfl) ?_
    replace hH := hH.pick [1, 2, 0] (Hs' := [_, _, _]) rfl
    replace hH := hH.pick [0, 1] (Hs' := [_, _]) rfl
    exact ⟨_, rfl, v_o, N_o, N_od, by rw [hst, hz], by rw [hst]; exact hR_o, hH⟩
  · skip
    rw [hf] at hA
    obtain ⟨hO_t13, rfl⟩ := hF_t13 x n hf
    obtain ⟨g1, g2, g3, g4⟩ := frV_det hf
    have g5 := wf_length x
    rw [List.length_drop] at g4
    have hs1 := scN_some (l := l) (i := i) (by rw [← hz]; exact hf)
    have hs2 : (scN l (i + 1)).2 = z + n := by rw [hs1, hz]
    refine sq hA (q_move rfl) rfl fun a hA => ?_
    refine sq hA (q_extract rfl rfl) rfl fun a hA => ?_
    refine sq hA (q_extract rfl rfl) rfl fun a hA => ?_
    refine sq hA (q_extract rfl rfl) rfl fun a hA => ?_
    refine sq hA (q_assign rfl) rfl fun a hA => ?_
    refine sq hA (q_assign rfl) rfl fun a hA => ?_
    refine sq hA (q_assign rfl) rfl fun a hA => ?_
    refine wpList_nil ?_
    refine hK4 _ _ ?_
    clear hK4
    refine wp_seq_k fun K8 hK8 => ?_
    refine wp_seq_k fun K9 hK9 => ?_
    refine wp_region_lit ?_
    refine sq hA (q_move rfl) rfl fun a hA => ?_
    refine sq hA (q_not rfl) rfl fun a hA => ?_
    refine wpList_nil ?_
    refine hK9 _ _ ?_
    clear hK9
    refine cond_f hA rfl ?_
    refine wp_skip ?_
    refine hK8 _ _ ?_
    clear hK8
    refine wp_seq_k fun K10 hK10 => ?_
    refine wp_region_lit ?_
    refine sq hA (q_move rfl) rfl fun a hA => ?_
    refine sq hA (q_move rfl) rfl fun a hA => ?_
    refine sl hA (lo_build1 hH Tryd.underlying32 ti22 rfl rfl (Own.one hO_t13)) rfl ?_
    clear hH; rintro v_t23 w ⟨N_t23, hO_t23, hH⟩ a hA
    replace hH := hH.pick [2, 0, 1, 3] (Hs' := [_, _, _, _]) rfl
    obtain ⟨vs_t24, hvl_t24, hvo_t24, hvr_t24⟩ := hR_o
    refine sl hA (lo_append hH Tryd.underlying32 Tryd.underlying32 (.inl rfl) ti22 rfl rfl rfl hvo_t24 (Rd.src (Own.rd0 hO_t23 hH 1 rfl)) (by intro u hu; rw [List.mem_singleton.1 hu]; exact Own.one hO_t13) (by first | omega | (have hsl := scN_count l i; omega)) (by first | omega | (have hsl := scN_count l i; omega))) rfl ?_
    clear hH; rintro v_t24 w ⟨N_t24, hO_t24, hH⟩ a hA
    replace hH := HS.join (hH.pick [2, 3, 0, 1] (Hs' := [_, _, _, _]) rfl)
    obtain ⟨N_dt24, hN_dt24, hR_t24⟩ : ∃ N, N = _ ∧ RowsH 22 v_t24 _ N_t24 N := ⟨_, rfl, RowsH.snoc hvl_t24 hO_t24 hvr_t24 (Own.rdh hO_t13)⟩
    rw [← hN_dt24] at hH
    refine sq hA (q_assign rfl) rfl fun a hA => ?_
    refine wpList_nil ?_
    refine hK10 _ _ ?_
    clear hK10
    refine wp_region_lit ?_
    refine sq hA (q_move rfl) rfl fun a hA => ?_
    refine sq hA (q_move rfl) rfl fun a hA => ?_
    refine sq hA (q_addI rfl rfl (by omega)) rfl fun a hA => ?_
    refine sq hA (q_assign rfl) rfl fun a hA => ?_
    refine wpList_nil ?_
    refine block_normal ?_
    replace hH := hH.pick [1, 0, 2] (Hs' := [_, _, _]) rfl
    replace hH := hH.pick [0, 1] (Hs' := [_, _]) rfl
    exact ⟨_, (by rw [hs2]; omega), i + 1, v_t24, N_t24, N_dt24, hA.sub ⟨(by rw [hs2]; rfl), rfl, rfl, rfl, rfl, trivial⟩, hH, by (rw [hs1]; exact hR_t24), rfl⟩

theorem sameR_any {w0 : World} (u v : Value) (p q : List Bs) (hp : RdR [] w0 u p) (hq : RdR [] w0 v q) (hl : p.length ≤ 1048576) (hm : q.length ≤ 1048576) (hpl : ∀ x ∈ p, x.length ≤ 4194304) (hql : ∀ x ∈ q, x.length ≤ 4194304) :
    Calls Tryd.prog 20 #[u, v] w0 (Ret fun r w' => r = .bool (decide (p = q)) ∧ HS [] w0 w' []) := by
  have hH := HS.start w0
  refine start (n := 27) (E := [(0, _), (1, _)]) Tryd.func20 rfl rfl rfl (args_look rfl) ?_
  intro a hA
  obtain ⟨vs_u, hvu, hru, hwu⟩ := hp
  obtain ⟨vs_v, hvv, hrv, hwv⟩ := hq
  refine wp_seq_k fun K1 hK1 => ?_
  refine wp_region_lit ?_
  refine sq hA (q_assign rfl) rfl fun a hA => ?_
  refine wpList_nil ?_
  refine hK1 _ _ ?_
  clear hK1
  refine wp_seq_k fun K2 hK2 => ?_
  refine wp_seq_k fun K3 hK3 => ?_
  refine wp_region_lit ?_
  refine sq hA (q_move rfl) rfl fun a hA => ?_
  refine sq hA (q_len Tryd.underlying32 rfl (Rd.shp hru)) rfl fun a hA => ?_
  refine sq hA (q_move rfl) rfl fun a hA => ?_
  refine sq hA (q_len Tryd.underlying32 rfl (Rd.shp hrv)) rfl fun a hA => ?_
  refine sq hA (q_neqI rfl rfl) rfl fun a hA => ?_
  refine wpList_nil ?_
  refine hK3 _ _ ?_
  clear hK3
  replace hA := hA.sub (E' := [(10, _), (4, _), (0, _), (1, _)]) ⟨rfl, rfl, rfl, rfl, trivial⟩
  refine cond_d hA rfl (fun hc10 => ?_) (fun hc10 => ?_)
  · skip
    have hne : ¬ p = q := fun e => hc10 (by rw [e])
    refine wp_seq_k fun K4 hK4 => ?_
    refine wp_region_lit ?_
    refine sq hA (q_assign rfl) rfl fun a hA => ?_
    refine wpList_nil ?_
    refine hK4 _ _ ?_
    clear hK4
    replace hA := hA.sub (E' := [(4, _), (0, _), (1, _)]) ⟨rfl, rfl, rfl, trivial⟩
    refine wp_ret ?_
    refine then_ret ?_
    refine post_ret hA (res_1 rfl hA rfl) ?_
    first
      | have hd := decide_eq_false hne
        exact ⟨_, rfl, by rw [hd], hH⟩
      | have : i = p.length := by omega
        subst this
        have he : p = q := by have h1 := ht; rw [List.take_length, hlen, List.take_length] at h1; exact h1
        exact ⟨_, rfl, by rw [decide_eq_true he], hH⟩
  · skip
    have hlen : p.length = q.length := by omega
    refine wp_skip ?_
    refine hK2 _ _ ?_
    clear hK2
    replace hA := hA.sub (E' := [(4, _), (0, _), (1, _)]) ⟨rfl, rfl, rfl, trivial⟩
    refine wp_seq_k fun K5 hK5 => ?_
    refine wp_seq_k fun K6 hK6 => ?_
    refine wp_region_lit ?_
    refine sq hA (q_assign rfl) rfl fun a hA => ?_
    refine wpList_nil ?_
    refine hK6 _ _ ?_
    clear hK6
    refine wp_block ?_
    refine wp_loop_ghost (fun gm a w => ∃ i : Nat, At 27 [(5, I i), (4, (.bool false)), (0, u), (1, v)] a ∧ HS [] w0 w ([]) ∧ (i ≤ p.length) ∧ (p.take i = q.take i) ∧ gm = p.length - i) (p.length - (0)) ⟨0, hA.sub ⟨rfl, rfl, rfl, rfl, trivial⟩, hH, by omega, by simp, rfl⟩ ?_
    clear hA hH
    rintro gm a w ⟨i, hA, hH, hi, ht, rfl⟩
    refine wp_seq_k fun K7 hK7 => ?_
    refine wp_seq_k fun K8 hK8 => ?_
    refine wp_region_lit ?_
    refine sq hA (q_move rfl) rfl fun a hA => ?_
    refine sq hA (q_move rfl) rfl fun a hA => ?_
    refine sq hA (q_len Tryd.underlying32 rfl (Rd.shp hru)) rfl fun a hA => ?_
    refine sq hA (q_lssI rfl rfl) rfl fun a hA => ?_
    refine wpList_nil ?_
    refine hK8 _ _ ?_
    clear hK8
    refine cond_d hA rfl (fun hc14 => ?_) (fun hc14 => ?_)
    · skip
      refine wp_skip ?_
      refine hK7 _ _ ?_
      clear hK7
      refine wp_seq_k fun K9 hK9 => ?_
      refine wp_block ?_
      refine wp_seq_k fun K10 hK10 => ?_
      refine any_go mixed (fun j => !(Nat.beq j 8)) hH ?_
      clear hH; intro w hH
      have hS := hH
      change wpK _ _ _ _ _ _ 10 #[false, false, false, false, false, false, false, false, false, false] _ _
      refine apq hA 0 rfl (by kernel_rfl) (by intro c a d v w h; cases d <;> exact h) (fun w => (q_move rfl)) rfl (listed' := #[true, false, false, false, false, false, false, false, false, false]) rfl fun a hA => ?_
      refine apq hA 1 rfl (by kernel_rfl) (by intro c a d v w h; cases d <;> exact h) (fun w => (q_move rfl)) rfl (listed' := #[true, true, false, false, false, false, false, false, false, false]) rfl fun a hA => ?_
      refine apq hA 2 rfl (by kernel_rfl) (by intro c a d v w h; cases d <;> exact h) (fun w => (q_idx1 (i) Tryd.underlying32 ti22 rfl rfl (by first | omega | rfl) (Rd.shp hru) (by first | omega | (simp; done) | (simp; omega) | (rw [List.length_map]; assumption) | assumption | rfl | (simp [*]; done) | (simp [*]; omega)))) rfl (listed' := #[true, true, true, false, false, false, false, false, false, false]) rfl fun a hA => ?_
      refine aq hA 3 rfl (by kernel_rfl) (by intro c a d v w h; cases d <;> exact h) hS (fun w hH => (q_loadR Tryd.underlying22 rfl rfl (hH.rd hru) (by first | omega | (simp; done) | (simp; omega) | (rw [List.length_map]; assumption) | assumption | rfl | (simp [*]; done) | (simp [*]; omega)) (getD_some' vs_u nilV (by first | omega | (simp; done) | (simp; omega) | (rw [List.length_map]; assumption) | assumption | rfl | (simp [*]; done) | (simp [*]; omega))))) rfl (listed' := #[true, true, true, true, false, false, false, false, false, false]) rfl fun a hA => ?_
      refine apq hA 4 rfl (by kernel_rfl) (by intro c a d v w h; cases d <;> exact h) (fun w => (q_move rfl)) rfl (listed' := #[true, true, true, true, true, false, false, false, false, false]) rfl fun a hA => ?_
      refine apq hA 5 rfl (by kernel_rfl) (by intro c a d v w h; cases d <;> exact h) (fun w => (q_move rfl)) rfl (listed' := #[true, true, true, true, true, true, false, false, false, false]) rfl fun a hA => ?_
      have hpi := hpl (p.getD i []) (by simp [List.getD, show i < p.length by omega])
      have hqi := hql (q.getD i []) (by simp [List.getD, show i < q.length by omega])
      refine apq hA 6 rfl (by kernel_rfl) (by intro c a d v w h; cases d <;> exact h) (fun w => (q_idx1 (i) Tryd.underlying32 ti22 rfl rfl (by first | omega | rfl) (Rd.shp hrv) (by first | omega | (simp; done) | (simp; omega) | (rw [List.length_map]; assumption) | assumption | rfl | (simp [*]; done) | (simp [*]; omega)))) rfl (listed' := #[true, true, true, true, true, true, true, false, false, false]) rfl fun a hA => ?_
      refine aq hA 7 rfl (by kernel_rfl) (by intro c a d v w h; cases d <;> exact h) hS (fun w hH => (q_loadR Tryd.underlying22 rfl rfl (hH.rd hrv) (by first | omega | (simp; done) | (simp; omega) | (rw [List.length_map]; assumption) | assumption | rfl | (simp [*]; done) | (simp [*]; omega)) (getD_some' vs_v nilV (by first | omega | (simp; done) | (simp; omega) | (rw [List.length_map]; assumption) | assumption | rfl | (simp [*]; done) | (simp [*]; omega))))) rfl (listed' := #[true, true, true, true, true, true, true, true, false, false]) rfl fun a hA => ?_
      refine al hA 8 rfl (by kernel_rfl) (lo_call fn17 rfl (same_any _ _ _ _ (hH.rd (hwu (i) (by first | omega | (simp; done) | (simp; omega) | (rw [List.length_map]; assumption) | assumption | rfl | (simp [*]; done) | (simp [*]; omega)))) (hH.rd (hwv (i) (by first | omega | (simp; done) | (simp; omega) | (rw [List.length_map]; assumption) | assumption | rfl | (simp [*]; done) | (simp [*]; omega)))) (by first | omega | (simp; done) | (simp; omega)) (by first | omega | (simp; done) | (simp; omega)))) rfl (listed' := #[true, true, true, true, true, true, true, true, true, false]) rfl ?_
      rintro _ w ⟨rfl, hC⟩
      replace hH := HS.call0 hH hC
      clear hC
      refine ⟨fun _ h => absurd h (by decide), ?_⟩
      intro a hA
      refine hA.spl (fun hs25 hA => ?_) (fun hs25 hA => ?_)
      · skip
        have heq : p.getD i [] = q.getD i [] := hs25
        refine apq hA 9 rfl (by kernel_rfl) (by intro c a d v w h; cases d <;> exact h) (fun w => (q_not rfl)) rfl (listed' := #[true, true, true, true, true, true, true, true, true, true]) rfl fun a hA => ?_
        refine a_end (by kernel_rfl) ?_ _
        refine hK10 _ _ ?_
        clear hK10
        refine cond_f hA rfl ?_
        refine wp_skip ?_
        refine block_normal ?_
        refine hK9 _ _ ?_
        clear hK9
        refine wp_region_lit ?_
        refine sq hA (q_move rfl) rfl fun a hA => ?_
        refine sq hA (q_addI (n := 1) rfl rfl (by omega)) rfl fun a hA => ?_
        refine sq hA (q_assign rfl) rfl fun a hA => ?_
        refine wpList_nil ?_
        exact ⟨_, by omega, i + 1, hA.sub ⟨rfl, rfl, rfl, rfl, trivial⟩, hH, by omega, by (rw [take_snoc (d := []) p (by omega), take_snoc (d := []) q (by omega), ht, heq]), rfl⟩
      · skip
        have hne : ¬ p = q := fun e => hs25 (by rw [e])
        refine apq hA 9 rfl (by kernel_rfl) (by intro c a d v w h; cases d <;> exact h) (fun w => (q_not rfl)) rfl (listed' := #[true, true, true, true, true, true, true, true, true, true]) rfl fun a hA => ?_
        refine a_end (by kernel_rfl) ?_ _
        refine hK10 _ _ ?_
        clear hK10
        refine cond_t hA rfl ?_
        refine wp_seq_k fun K11 hK11 => ?_
        refine wp_region_lit ?_
        refine sq hA (q_assign rfl) rfl fun a hA => ?_
        refine wpList_nil ?_
        refine hK11 _ _ ?_
        clear hK11
        refine wp_ret ?_
        refine block_ret ?_
        refine then_ret ?_
        refine then_ret ?_
        refine block_ret ?_
        refine then_ret ?_
        refine post_ret hA (res_1 rfl hA rfl) ?_
        first
          | have hd := decide_eq_false hne
            exact ⟨_, rfl, by rw [hd], hH⟩
          | have : i = p.length := by omega
            subst this
            have he : p = q := by have h1 := ht; rw [List.take_length, hlen, List.take_length] at h1; exact h1
            exact ⟨_, rfl, by rw [decide_eq_true he], hH⟩
    · skip
      refine wp_exit ?_
      refine then_exit ?_
      refine then_exit ?_
      refine exit_here ?_
      refine hK5 _ _ ?_
      clear hK5
      replace hA := hA.sub (E' := [(4, _)]) ⟨rfl, trivial⟩
      refine wp_seq_k fun K12 hK12 => ?_
      refine wp_region_lit ?_
      refine sq hA (q_assign rfl) rfl fun a hA => ?_
      refine wpList_nil ?_
      refine hK12 _ _ ?_
      clear hK12
      refine wp_ret ?_
      refine post_ret hA (res_1 rfl hA rfl) ?_
      first
        | have hd := decide_eq_false hne
          exact ⟨_, rfl, by rw [hd], hH⟩
        | have : i = p.length := by omega
          subst this
          have he : p = q := by have h1 := ht; rw [List.take_length, hlen, List.take_length] at h1; exact h1
          exact ⟨_, rfl, by rw [decide_eq_true he], hH⟩

set_option maxHeartbeats 1000000 in
theorem scan_any {w0 : World} {lv : Nat} (hg : Gl lv w0) (v : Value) (l : Bs) (hr : By [] w0 v l) (hl : l.length ≤ 1000000) :
    Calls Tryd.prog 18 #[v] w0 (Ret fun r w' => ∃ v' Nr Nd, r = .tuple #[v', I (scanV l).2] ∧ RowsH 22 v' (scanV l).1 Nr Nd ∧ HS [] w0 w' [Nr, Nd]) := by
  have hH := HS.start w0
  refine start (n := 100) (E := [(0, _)]) Tryd.func18 rfl rfl rfl (args_look rfl) ?_
  intro a hA
  refine wp_seq_k fun K1 hK1 => ?_
  refine wp_region_lit ?_
  refine sq hA (q_assign rfl) rfl fun a hA => ?_
  refine sq hA (q_assign rfl) rfl fun a hA => ?_
  refine wpList_nil ?_
  refine hK1 _ _ ?_
  clear hK1
  refine wp_scope_straight ?_
  refine wp_seq_k fun K2 hK2 => ?_
  refine wp_region_lit ?_
  refine sq hA (q_assign rfl) rfl fun a hA => ?_
  refine wpList_nil ?_
  refine hK2 _ _ ?_
  clear hK2
  refine wp_seq_k fun K3 hK3 => ?_
  refine wp_region_lit ?_
  refine sq hA (q_assign rfl) rfl fun a hA => ?_
  refine wpList_nil ?_
  refine hK3 _ _ ?_
  clear hK3
  refine wp_seq_k fun K4 hK4 => ?_
  refine wp_label ?_
  refine hK4 _ _ ?_
  clear hK4
  refine wp_seq_k fun K5 hK5 => ?_
  refine wp_block ?_
  replace hH := hH.nilFront
  replace hH := hH.nilFront
  replace hH := hH.pick [1, 0] (Hs' := [_, _]) rfl
  refine wp_loop_ghost (fun gm a w => ∃ i : Nat, ∃ v_o : Value, ∃ N_o : Hl, ∃ N_od : Hl, At 100 [(5, I (scN l i).2), (4, v_o), (3, (I 0)), (2, (.slice none 0 0)), (0, v)] a ∧ HS [] w0 w ([N_o, N_od]) ∧ (RowsH 22 v_o (scN l i).1 N_o N_od) ∧ gm = l.length - (scN l i).2) (l.length - (scN l (0)).2) ⟨0, nilV, [], [], hA.sub ⟨rfl, rfl, rfl, rfl, rfl, trivial⟩, hH, by exact RowsH.nil _, rfl⟩ ?_
  clear hA hH
  rintro gm a w ⟨i, v_o, N_o, N_od, hA, hH, hR_o, rfl⟩
  have hle := scN_le l i
  obtain ⟨z, hz⟩ : ∃ z, z = (scN l i).2 := ⟨_, rfl⟩
  rw [← hz] at hA hle
  refine wp_seq_k fun K6 hK6 => ?_
  refine wp_seq_k fun K7 hK7 => ?_
  refine wp_region_lit ?_
  refine sq hA (q_move rfl) rfl fun a hA => ?_
  refine sq hA (q_move rfl) rfl fun a hA => ?_
  refine sq hA (q_len Tryd.underlying22 rfl (Rd.shp hr)) rfl fun a hA => ?_
  refine sq hA (q_lssI rfl rfl) rfl fun a hA => ?_
  refine wpList_nil ?_
  refine hK7 _ _ ?_
  clear hK7
  refine cond_d hA rfl (fun hc17 => ?_) (fun hc17 => ?_)
  · skip
    refine wp_skip ?_
    refine hK6 _ _ ?_
    clear hK6
    refine wp_block ?_
    refine wp_seq_k fun K8 hK8 => ?_
    refine wp_region_lit ?_
    refine sq hA (q_move rfl) rfl fun a hA => ?_
    refine sq hA (q_move rfl) rfl fun a hA => ?_
    refine sq hA (q_move rfl) rfl fun a hA => ?_
    refine sq hA (q_len Tryd.underlying22 rfl (Rd.shp hr)) rfl fun a hA => ?_
    refine sq hA (q_move rfl) rfl fun a hA => ?_
    refine sq hA (q_addI (n := 9) rfl rfl (by omega)) rfl fun a hA => ?_
    refine sq hA (q_minI rfl rfl) rfl fun a hA => ?_
    obtain ⟨v_t25, hv_t25, hP_t25⟩ := By.piece (Rd.shp hr) (z) (min l.length (z + 9)) (by omega) (by omega) rfl
    refine sq hA (q_slice Tryd.underlying22 ti5 rfl (z) (min l.length (z + 9)) hv_t25 (Rd.shp hr) rfl rfl (rfl) (by split <;> omega) (by omega) (by omega)) rfl fun a hA => ?_
    have hP9 : ∀ M w, By M w v l → By M w v_t25 ((l.drop z).take 9) := fun M w h => by have h2 := hP_t25 M w h; rwa [head9 l hle] at h2
    have hXl : (l.drop z).length = l.length - z := List.length_drop
    have h9l : ((l.drop z).take 9).length = min 9 (l.length - z) := by rw [List.length_take, hXl]
    have h9x : ((l.drop z).take (min l.length (z + 9) - z)).length = min 9 (l.length - z) := by rw [head9 l hle, h9l]
    refine sq hA (q_assign rfl) rfl fun a hA => ?_
    refine wpList_nil ?_
    refine hK8 _ _ ?_
    clear hK8
    refine wp_seq_k fun K9 hK9 => ?_
    refine wp_region_lit ?_
    refine sq hA (q_move rfl) rfl fun a hA => ?_
    refine sl hA (lo_call fn35 rfl (read_any _ _ (hH.rd (hP9 _ _ hr)) (by omega))) rfl ?_
    rintro _ w ⟨b_t27, v_d27, N_d27, rfl, hO_d27, hC⟩ a hA
    replace hH := HS.call0 hH hC
    clear hC
    refine sq hA (q_assign rfl) rfl fun a hA => ?_
    refine wpList_nil ?_
    refine hK9 _ _ ?_
    clear hK9
    refine wp_seq_k fun K10 hK10 => ?_
    refine wp_region_lit ?_
    refine sq hA (q_move rfl) rfl fun a hA => ?_
    refine sl hA (lo_call fn36 rfl (rnum_any b_t27 _ _ 0 0 (Own.rdM hO_d27 (Ns1 := [_]) hH 0 rfl) (Nat.zero_le _) (by omega) 262144#64 262144 (by decide) (HS.handed (Ns1 := [_]) hH))) rfl ?_
    rintro _ w ⟨k_t29, rfl, hk_t29, hd_t29, hC⟩ a hA
    replace hH := HS.call (Ns1 := [_]) hH hC
    clear hC
    have h9d : (((l.drop z).take 9).drop k_t29).length = min 9 (l.length - z) - k_t29 := by rw [List.length_drop, h9l]
    obtain ⟨w29, hw29⟩ : ∃ w29, w29 = rNum 262144 (List.drop 0 ((l.drop z).take 9), 0) := ⟨_, rfl⟩
    rw [← hw29] at hA hH hd_t29
    obtain ⟨hbad, hgood, hw29l⟩ := num9 (l.drop z) hw29
    refine sq hA (q_cv64_I Tryd.underlying61 Tryd.underlying3 rfl (by omega)) rfl fun a hA => ?_
    refine sq hA (q_assign rfl) rfl fun a hA => ?_
    refine wpList_nil ?_
    refine hK10 _ _ ?_
    clear hK10
    refine wp_seq_k fun K11 hK11 => ?_
    refine wp_region_lit ?_
    refine sq hA (q_move rfl) rfl fun a hA => ?_
    refine sq hA (q_len Tryd.underlying22 rfl (Rd.shp (hP_t25 _ _ hr))) rfl fun a hA => ?_
    refine sq hA (q_move rfl) rfl fun a hA => ?_
    refine sl hA (lo_call fn37 rfl (left_any b_t27 _ _ _ _ (Own.rdM hO_d27 (Ns1 := [_]) hH 0 rfl) (by assumption) (by omega) (HS.handed (Ns1 := [_]) hH))) rfl ?_
    rintro _ w ⟨rfl, hC⟩ a hA
    replace hH := HS.call (Ns1 := [_]) hH hC
    clear hC
    refine sq hA (q_subI rfl rfl (by omega)) rfl fun a hA => ?_
    rw [show ((((l.drop z).take (min l.length (z + 9) - z)).length : Int) - (((l.drop z).take 9).drop k_t29).length) = (k_t29 : Int) by omega] at hA
    refine sq hA (q_assign rfl) rfl fun a hA => ?_
    refine wpList_nil ?_
    refine hK11 _ _ ?_
    clear hK11
    refine wp_seq_k fun K12 hK12 => ?_
    refine wp_seq_k fun K13 hK13 => ?_
    refine wp_region_lit ?_
    refine sq hA (q_move rfl) rfl fun a hA => ?_
    refine sl hA (lo_call fn38 rfl (err_any b_t27 _ _ _ _ (Own.rdM hO_d27 (Ns1 := [_]) hH 0 rfl) (by assumption) (by omega) (HS.handed (Ns1 := [_]) hH))) rfl ?_
    rintro _ w ⟨rfl, hC⟩ a hA
    replace hH := HS.call (Ns1 := [_]) hH hC
    clear hC
    refine sq hA (q_neqI (n := 0) rfl rfl) rfl fun a hA => ?_
    refine hA.spl (fun hs38 hA => ?_) (fun hs38 hA => ?_)
    · skip
      have hf := hbad (by omega)
      have hst : scanV l = scN l i := scanV_of (by rw [← hz]; exact hf)
      refine sq hA (q_move rfl) rfl fun a hA => ?_
      refine gs hA rfl rfl rfl rfl fun a hA => ?_
      refine gs hA rfl rfl rfl rfl fun a hA => ?_
      refine gs hA rfl rfl rfl rfl fun a hA => ?_
      refine gs hA rfl rfl rfl rfl fun a hA => ?_
      refine gs hA rfl rfl rfl rfl fun a hA => ?_
      refine gs hA rfl rfl rfl rfl fun a hA => ?_
      refine gs hA rfl rfl rfl rfl fun a hA => ?_
      refine gs hA rfl rfl rfl rfl fun a hA => ?_
      refine gs hA rfl rfl rfl rfl fun a hA => ?_
      refine sq hA (q_pick_t rfl rfl) rfl fun a hA => ?_
      refine sq hA (q_move rfl) rfl fun a hA => ?_
      refine gs hA rfl rfl rfl rfl fun a hA => ?_
      refine gs hA rfl rfl rfl rfl fun a hA => ?_
      refine sq hA (q_pick_t rfl rfl) rfl fun a hA => ?_
      refine wpList_nil ?_
      refine hK13 _ _ ?_
      clear hK13
      refine cond_t hA rfl ?_
      refine wp_exit ?_
      refine then_exit ?_
      refine exit_out rfl ?_
      refine then_exit ?_
      refine exit_here ?_
      refine hK5 _ _ ?_
      clear hK5
      replace hA := hA.sub (E' := [(5, _), (4, _), (3, _), (2, _)]) ⟨rfl, rfl, rfl, rfl, trivial⟩
      refine wp_seq_k fun K14 hK14 => ?_
      refine wp_region_lit ?_
      refine sq hA (q_move rfl) rfl fun a hA => ?_
      refine sq hA (q_move rfl) rfl fun a hA => ?_
      refine sq hA (q_assign rfl) rfl fun a hA => ?_
      refine sq hA (q_assign rfl) rfl fun a hA => ?_
      refine wpList_nil ?_
      refine hK14 _ _ ?_
      clear hK14
      replace hA := hA.sub (E' := [(3, _), (2, _)]) ⟨rfl, rfl, trivial⟩
      refine wp_ret ?_
      refine noGoto_ret ?_
      refine post_ret hA (res_2 rfl hA rfl rfl) ?_
      replace hH := hH.pick [2, 3, 0, 1] (Hs' := [_, _, _, _]) rfl
      replace hH := hH.pick [0, 1] (Hs' := [_, _]) rfl
      exact ⟨_, rfl, v_o, N_o, N_od, by rw [hst, hz], by rw [hst]; exact hR_o, hH⟩
    · skip
      obtain ⟨e1, e2, e3⟩ := hgood (by omega)
      have hF : k_t29 = 1 + nW (l.drop z) := num9_at e3 hk_t29 (hd_t29.trans e2)
      refine sq hA (q_move rfl) rfl fun a hA => ?_
      refine gq hA rfl rfl (q_move rfl) rfl fun a hA => ?_
      refine gq hA rfl rfl (q_move rfl) rfl fun a hA => ?_
      refine gq hA rfl rfl (q_len Tryd.underlying22 rfl (Rd.shp hr)) rfl fun a hA => ?_
      refine gq hA rfl rfl (q_move rfl) rfl fun a hA => ?_
      refine gq hA rfl rfl (q_subI rfl rfl (by omega)) rfl fun a hA => ?_
      refine gq hA rfl rfl (q_move rfl) rfl fun a hA => ?_
      refine gq hA rfl rfl (q_subI rfl rfl (by omega)) rfl fun a hA => ?_
      refine gq hA rfl rfl (q_subI (n := 8) rfl rfl (by omega)) rfl fun a hA => ?_
      refine gq hA rfl rfl (q_gtrI rfl rfl) rfl fun a hA => ?_
      refine hA.spl (fun hs48 hA => ?_) (fun hs48 hA => ?_)
      · skip
        have hf := fr_short e3 (by rw [← hF, ← e1]; omega)
        have hst : scanV l = scN l i := scanV_of (by rw [← hz]; exact hf)
        refine sq hA (q_pick_f rfl rfl) rfl fun a hA => ?_
        refine sq hA (q_move rfl) rfl fun a hA => ?_
        refine gs hA rfl rfl rfl rfl fun a hA => ?_
        refine gs hA rfl rfl rfl rfl fun a hA => ?_
        refine sq hA (q_pick_t rfl rfl) rfl fun a hA => ?_
        refine wpList_nil ?_
        refine hK13 _ _ ?_
        clear hK13
        refine cond_t hA rfl ?_
        refine wp_exit ?_
        refine then_exit ?_
        refine exit_out rfl ?_
        refine then_exit ?_
        refine exit_here ?_
        refine hK5 _ _ ?_
        clear hK5
        replace hA := hA.sub (E' := [(5, _), (4, _), (3, _), (2, _)]) ⟨rfl, rfl, rfl, rfl, trivial⟩
        refine wp_seq_k fun K15 hK15 => ?_
        refine wp_region_lit ?_
        refine sq hA (q_move rfl) rfl fun a hA => ?_
        refine sq hA (q_move rfl) rfl fun a hA => ?_
        refine sq hA (q_assign rfl) rfl fun a hA => ?_
        refine sq hA (q_assign rfl) rfl fun a hA => ?_
        refine wpList_nil ?_
        refine hK15 _ _ ?_
        clear hK15
        replace hA := hA.sub (E' := [(3, _), (2, _)]) ⟨rfl, rfl, trivial⟩
        refine wp_ret ?_
        refine noGoto_ret ?_
        refine post_ret hA (res_2 rfl hA rfl rfl) ?_
        replace hH := hH.pick [2, 3, 0, 1] (Hs' := [_, _, _, _]) rfl
        replace hH := hH.pick [0, 1] (Hs' := [_, _]) rfl
        exact ⟨_, rfl, v_o, N_o, N_od, by rw [hst, hz], by rw [hst]; exact hR_o, hH⟩
      · skip
        have hlong : ¬ (l.drop z).length < k_t29 + w29.1.toNat + 8 := by omega
        refine sq hA (q_pick_f rfl rfl) rfl fun a hA => ?_
        refine sq hA (q_move rfl) rfl fun a hA => ?_
        refine gq hA rfl rfl (q_move rfl) rfl fun a hA => ?_
        refine gq hA rfl rfl (q_lssI (n := 0) rfl rfl) rfl fun a hA => ?_
        replace hA := hA.decF (by omega)
        refine sq hA (q_pick_f rfl rfl) rfl fun a hA => ?_
        refine wpList_nil ?_
        refine hK13 _ _ ?_
        clear hK13
        refine cond_f hA rfl ?_
        refine wp_skip ?_
        refine hK12 _ _ ?_
        clear hK12
        refine wp_seq_k fun K16 hK16 => ?_
        refine wp_region_lit ?_
        refine sq hA (q_move rfl) rfl fun a hA => ?_
        refine sq hA (q_move rfl) rfl fun a hA => ?_
        refine sq hA (q_move rfl) rfl fun a hA => ?_
        refine sq hA (q_move rfl) rfl fun a hA => ?_
        refine sq hA (q_addI rfl rfl (by omega)) rfl fun a hA => ?_
        refine sq hA (q_move rfl) rfl fun a hA => ?_
        refine sq hA (q_addI rfl rfl (by omega)) rfl fun a hA => ?_
        obtain ⟨v_t61, hv_t61, hP_t61⟩ := By.piece (Rd.shp hr) (z) (z + k_t29 + w29.1.toNat) (by omega) (by omega) rfl
        refine sq hA (q_slice Tryd.underlying22 ti5 rfl (z) (z + k_t29 + w29.1.toNat) hv_t61 (Rd.shp hr) rfl rfl (rfl) (by omega) (by omega) (by omega)) rfl fun a hA => ?_
        replace hP_t61 : ∀ M w, By M w v l → By M w v_t61 ((l.drop z).take (k_t29 + w29.1.toNat)) := fun M w h => by have h2 := hP_t61 M w h; rwa [show z + k_t29 + w29.1.toNat - z = k_t29 + w29.1.toNat by omega] at h2
        refine sq hA (q_assign rfl) rfl fun a hA => ?_
        refine wpList_nil ?_
        refine hK16 _ _ ?_
        clear hK16
        refine wp_seq_k fun K17 hK17 => ?_
        refine wp_region_lit ?_
        refine sq hA (q_move rfl) rfl fun a hA => ?_
        refine sl hA (lo_call fn31 rfl (sum_any (hg.mono0 hH) _ _ (hH.rd (hP_t61 _ _ hr)) (by first | omega | (simp; done) | (simp; omega)))) rfl ?_
        rintro _ w ⟨rfl, hC⟩ a hA
        replace hH := HS.call0 hH hC
        clear hC
        refine sl hA (lo_allocA hH ti42) rfl ?_
        clear hH; rintro _ w ⟨b_t11, rfl, hH⟩ a hA
        refine s0 hA (lo_storeAm hH ti42 rfl rfl (by first | omega | (simp; done) | (simp; omega) | (rw [List.length_map]; assumption) | assumption | rfl | (simp [*]; done) | (simp [*]; omega)) (by first | omega | (simp; done) | (simp; omega) | (rw [List.length_map]; assumption) | assumption | rfl | (simp [*]; done) | (simp [*]; omega)) (one_B8 _)) ?_
        clear hH; rintro _ w hH
        refine wpList_nil ?_
        refine hK17 _ _ ?_
        clear hK17
        refine wp_seq_k fun K18 hK18 => ?_
        refine wp_seq_k fun K19 hK19 => ?_
        refine any_go mixed (fun j => !(Nat.beq j 14)) hH ?_
        clear hH; intro w hH
        have hS := hH
        change wpK _ _ _ _ _ _ 20 #[false, false, false, false, false, false, false, false, false, false, false, false, false, false, false, false, false, false, false, false] _ _
        refine apq hA 0 rfl (by kernel_rfl) (by intro c a d v w h; cases d <;> exact h) (fun w => (q_sliceA Tryd.underlying42 ti5 rfl 0 8 rfl rfl rfl rfl (by omega) (by omega))) rfl (listed' := #[true, false, false, false, false, false, false, false, false, false, false, false, false, false, false, false, false, false, false, false]) rfl fun a hA => ?_
        refine apq hA 1 rfl (by kernel_rfl) (by intro c a d v w h; cases d <;> exact h) (fun w => (q_move rfl)) rfl (listed' := #[true, true, false, false, false, false, false, false, false, false, false, false, false, false, false, false, false, false, false, false]) rfl fun a hA => ?_
        refine apq hA 2 rfl (by kernel_rfl) (by intro c a d v w h; cases d <;> exact h) (fun w => (q_move rfl)) rfl (listed' := #[true, true, true, false, false, false, false, false, false, false, false, false, false, false, false, false, false, false, false, false]) rfl fun a hA => ?_
        refine apq hA 3 rfl (by kernel_rfl) (by intro c a d v w h; cases d <;> exact h) (fun w => (q_move rfl)) rfl (listed' := #[true, true, true, true, false, false, false, false, false, false, false, false, false, false, false, false, false, false, false, false]) rfl fun a hA => ?_
        refine apq hA 4 rfl (by kernel_rfl) (by intro c a d v w h; cases d <;> exact h) (fun w => (q_addI rfl rfl (by omega))) rfl (listed' := #[true, true, true, true, true, false, false, false, false, false, false, false, false, false, false, false, false, false, false, false]) rfl fun a hA => ?_
        refine apq hA 5 rfl (by kernel_rfl) (by intro c a d v w h; cases d <;> exact h) (fun w => (q_move rfl)) rfl (listed' := #[true, true, true, true, true, true, false, false, false, false, false, false, false, false, false, false, false, false, false, false]) rfl fun a hA => ?_
        refine apq hA 6 rfl (by kernel_rfl) (by intro c a d v w h; cases d <;> exact h) (fun w => (q_addI rfl rfl (by omega))) rfl (listed' := #[true, true, true, true, true, true, true, false, false, false, false, false, false, false, false, false, false, false, false, false]) rfl fun a hA => ?_
        refine apq hA 7 rfl (by kernel_rfl) (by intro c a d v w h; cases d <;> exact h) (fun w => (q_move rfl)) rfl (listed' := #[true, true, true, true, true, true, true, true, false, false, false, false, false, false, false, false, false, false, false, false]) rfl fun a hA => ?_
        refine apq hA 8 rfl (by kernel_rfl) (by intro c a d v w h; cases d <;> exact h) (fun w => (q_move rfl)) rfl (listed' := #[true, true, true, true, true, true, true, true, true, false, false, false, false, false, false, false, false, false, false, false]) rfl fun a hA => ?_
        refine apq hA 9 rfl (by kernel_rfl) (by intro c a d v w h; cases d <;> exact h) (fun w => (q_addI rfl rfl (by omega))) rfl (listed' := #[true, true, true, true, true, true, true, true, true, true, false, false, false, false, false, false, false, false, false, false]) rfl fun a hA => ?_
        refine apq hA 10 rfl (by kernel_rfl) (by intro c a d v w h; cases d <;> exact h) (fun w => (q_move rfl)) rfl (listed' := #[true, true, true, true, true, true, true, true, true, true, true, false, false, false, false, false, false, false, false, false]) rfl fun a hA => ?_
        refine apq hA 11 rfl (by kernel_rfl) (by intro c a d v w h; cases d <;> exact h) (fun w => (q_addI rfl rfl (by omega))) rfl (listed' := #[true, true, true, true, true, true, true, true, true, true, true, true, false, false, false, false, false, false, false, false]) rfl fun a hA => ?_
        refine apq hA 12 rfl (by kernel_rfl) (by intro c a d v w h; cases d <;> exact h) (fun w => (q_addI (n := 8) rfl rfl (by omega))) rfl (listed' := #[true, true, true, true, true, true, true, true, true, true, true, true, true, false, false, false, false, false, false, false]) rfl fun a hA => ?_
        obtain ⟨v_t78, hv_t78, hP_t78⟩ := By.piece (Rd.shp hr) (z + k_t29 + w29.1.toNat) (z + k_t29 + w29.1.toNat + 8) (by omega) (by omega) rfl
        refine apq hA 13 rfl (by kernel_rfl) (by intro c a d v w h; cases d <;> exact h) (fun w => (q_slice Tryd.underlying22 ti5 rfl (z + k_t29 + w29.1.toNat) (z + k_t29 + w29.1.toNat + 8) hv_t78 (Rd.shp hr) rfl rfl (by omega) (by omega) (by omega) (by omega))) rfl (listed' := #[true, true, true, true, true, true, true, true, true, true, true, true, true, true, false, false, false, false, false, false]) rfl fun a hA => ?_
        replace hP_t78 : ∀ M w, By M w v l → By M w v_t78 (((l.drop z).drop (k_t29 + w29.1.toNat)).take 8) := fun M w h => by have h2 := hP_t78 M w h; rwa [show z + k_t29 + w29.1.toNat + 8 - (z + k_t29 + w29.1.toNat) = 8 by omega, Nat.add_assoc z, ← List.drop_drop] at h2
        refine al hA 14 rfl (by kernel_rfl) (lo_call fn39 rfl (msame_any _ _ _ _ (HS.by8 hH 0 rfl (by simp)) (hH.rd (hP_t78 _ _ hr)) (by rw [List.length_take, sha_length]; omega) (by rw [List.length_take]; omega))) rfl (listed' := #[true, true, true, true, true, true, true, true, true, true, true, true, true, true, true, false, false, false, false, false]) rfl ?_
        rintro _ w ⟨rfl, hC⟩
        replace hH := HS.call0 hH hC
        clear hC
        refine ⟨fun _ h => absurd h (by decide), ?_⟩
        intro a hA
        refine apq hA 15 rfl (by kernel_rfl) (by intro c a d v w h; cases d <;> exact h) (fun w => (q_move rfl)) rfl (listed' := #[true, true, true, true, true, true, true, true, true, true, true, true, true, true, true, true, false, false, false, false]) rfl fun a hA => ?_
        refine apq hA 16 rfl (by kernel_rfl) (by intro c a d v w h; cases d <;> exact h) (fun w => (q_extract rfl rfl)) rfl (listed' := #[true, true, true, true, true, true, true, true, true, true, true, true, true, true, true, true, true, false, false, false]) rfl fun a hA => ?_
        refine hA.spl (fun hs80 hA => ?_) (fun hs80 hA => ?_)
        · skip
          have hf := fr_yes e3 (by rw [← hF, ← e1]; exact hlong) (by rw [← hF, ← e1]; exact hs80)
          rw [← hF, ← e1] at hf
          obtain ⟨x, hx⟩ : ∃ x, x = ((l.drop z).drop k_t29).take w29.1.toNat := ⟨_, rfl⟩
          obtain ⟨n, hn⟩ : ∃ n, n = k_t29 + w29.1.toNat + 8 := ⟨_, rfl⟩
          rw [← hx, ← hn] at hf
          obtain ⟨g1, g2, g3, g4⟩ := frV_det hf
          have g5 := wf_length x
          rw [List.length_drop] at g4
          have hs1 := scN_some (l := l) (i := i) (by rw [← hz]; exact hf)
          have hs2 : (scN l (i + 1)).2 = z + n := by rw [hs1, hz]
          refine apq hA 17 rfl (by kernel_rfl) (by intro c a d v w h; cases d <;> exact h) (fun w => (q_extract rfl rfl)) rfl (listed' := #[true, true, true, true, true, true, true, true, true, true, true, true, true, true, true, true, true, true, false, false]) rfl fun a hA => ?_
          refine apq hA 18 rfl (by kernel_rfl) (by intro c a d v w h; cases d <;> exact h) (fun w => (q_assign rfl)) rfl (listed' := #[true, true, true, true, true, true, true, true, true, true, true, true, true, true, true, true, true, true, true, false]) rfl fun a hA => ?_
          refine apq hA 19 rfl (by kernel_rfl) (by intro c a d v w h; cases d <;> exact h) (fun w => (q_assign rfl)) rfl (listed' := #[true, true, true, true, true, true, true, true, true, true, true, true, true, true, true, true, true, true, true, true]) rfl fun a hA => ?_
          refine a_end (by kernel_rfl) ?_ _
          refine hK19 _ _ ?_
          clear hK19
          replace hA := hA.sub (E' := [(12, _), (81, _), (80, _), (64, _), (79, _), (78, _), (77, _), (76, _), (75, _), (74, _), (73, _), (72, _), (71, _), (70, _), (69, _), (68, _), (67, _), (66, _), (65, _), (11, _), (63, _), (62, _), (10, _), (61, _), (60, _), (59, _), (58, _), (57, _), (56, _), (55, _), (54, _), (53, _), (52, _), (51, _), (50, _), (49, _), (48, _), (47, _), (46, _), (45, _), (44, _), (43, _), (42, _), (41, _), (40, _), (39, _), (38, _), (37, _), (36, _), (9, _), (35, _), (34, _), (33, _), (32, _), (31, _), (8, _), (30, _), (29, _), (28, _), (7, _), (27, _), (26, _), (6, _), (25, _), (24, _), (23, _), (22, _), (21, _), (20, _), (19, _), (18, _), (17, _), (16, _), (15, _), (14, _), (5, _), (4, _), (3, _), (2, _), (0, _)]) ⟨rfl, rfl, rfl, rfl, rfl, rfl, rfl, rfl, rfl, rfl, rfl, rfl, rfl, rfl, rfl, rfl, rfl, rfl, rfl, rfl, rfl, rfl, rfl, rfl, rfl, rfl, rfl, rfl, rfl, rfl, rfl, rfl, rfl, rfl, rfl, rfl, rfl, rfl, rfl, rfl, rfl, rfl, rfl, rfl, rfl, rfl, rfl, rfl, rfl, rfl, rfl, rfl, rfl, rfl, rfl, rfl, rfl, rfl, rfl, rfl, rfl, rfl, rfl, rfl, rfl, rfl, rfl, rfl, rfl, rfl, rfl, rfl, rfl, rfl, rfl, rfl, rfl, rfl, rfl, rfl, trivial⟩
          refine wp_seq_k fun K20 hK20 => ?_
          refine wp_region_lit ?_
          refine sq hA (q_move rfl) rfl fun a hA => ?_
          refine sq hA (q_not rfl) rfl fun a hA => ?_
          refine wpList_nil ?_
          refine hK20 _ _ ?_
          clear hK20
          refine cond_f hA rfl ?_
          refine wp_skip ?_
          refine hK18 _ _ ?_
          clear hK18
          refine wp_seq_k fun K21 hK21 => ?_
          refine wp_region_lit ?_
          refine sq hA (q_move rfl) rfl fun a hA => ?_
          refine sl hA (lo_bs (f := B8) (e := 5) ([]) hH rfl rfl (fun w => by kernel_rfl)) rfl ?_
          clear hH; rintro v_t85 w ⟨N_t85, hO_t85, hH⟩ a hA
          refine sq hA (q_move rfl) rfl fun a hA => ?_
          refine sq hA (q_move rfl) rfl fun a hA => ?_
          obtain ⟨v_t88, hv_t88, hP_t88⟩ := By.pieceE (Rd.shp (hP_t61 _ _ hr)) (k_t29) (by first | omega | (simp; omega)) rfl
          refine sq hA (q_slice Tryd.underlying22 ti5 rfl (k_t29) (_) hv_t88 (Rd.shp (hP_t61 _ _ hr)) rfl rfl (by omega) (by first | rfl | (simp; done) | omega) (by first | omega | (simp; omega)) (by first | omega | (simp; omega))) rfl fun a hA => ?_
          refine sl hA (lo_appm hH Tryd.underlying22 Tryd.underlying22 (.inl rfl) ti5 rfl rfl rfl hO_t85 (Rd.src (hH.rd (hP_t88 _ _ (hP_t61 _ _ hr)))) (one_B8 _) (by first | omega | (simp; done) | (simp; omega)) (by first | omega | (simp; done) | (simp; omega))) rfl ?_
          clear hH; rintro v_t89 w ⟨N_t89, hO_t89, hH⟩ a hA
          refine sl hA (lo_build1 hH Tryd.underlying32 ti22 rfl rfl (Own.one hO_t89)) rfl ?_
          clear hH; rintro v_t90 w ⟨N_t90, hO_t90, hH⟩ a hA
          replace hH := hH.pick [5, 0, 1, 2, 3, 4, 6] (Hs' := [_, _, _, _, _, _, _]) rfl
          obtain ⟨vs_t91, hvl_t91, hvo_t91, hvr_t91⟩ := hR_o
          refine sl hA (lo_append hH Tryd.underlying32 Tryd.underlying32 (.inl rfl) ti22 rfl rfl rfl hvo_t91 (Rd.src (Own.rd0 hO_t90 hH 1 rfl)) (by intro u hu; rw [List.mem_singleton.1 hu]; exact Own.one hO_t89) (by first | omega | (have hsl := scN_count l i; omega)) (by first | omega | (have hsl := scN_count l i; omega))) rfl ?_
          clear hH; rintro v_t91 w ⟨N_t91, hO_t91, hH⟩ a hA
          replace hH := HS.join (hH.pick [2, 6, 0, 1, 3, 4, 5] (Hs' := [_, _, _, _, _, _, _]) rfl)
          obtain ⟨N_dt91, hN_dt91, hR_t91⟩ : ∃ N, N = _ ∧ RowsH 22 v_t91 _ N_t91 N := ⟨_, rfl, RowsH.snoc hvl_t91 hO_t91 hvr_t91 (Own.rdh hO_t89)⟩
          rw [← hN_dt91] at hH
          refine sq hA (q_assign rfl) rfl fun a hA => ?_
          refine wpList_nil ?_
          refine hK21 _ _ ?_
          clear hK21
          refine wp_region_lit ?_
          refine sq hA (q_move rfl) rfl fun a hA => ?_
          refine sq hA (q_move rfl) rfl fun a hA => ?_
          refine sq hA (q_move rfl) rfl fun a hA => ?_
          refine sq hA (q_addI rfl rfl (by omega)) rfl fun a hA => ?_
          refine sq hA (q_addI (n := 8) rfl rfl (by omega)) rfl fun a hA => ?_
          refine sq hA (q_addI rfl rfl (by omega)) rfl fun a hA => ?_
          rw [show ((z : Int) + ((k_t29 : Int) + w29.1.toNat + 8)) = ((z + n : Nat) : Int) by omega] at hA
          refine sq hA (q_assign rfl) rfl fun a hA => ?_
          refine wpList_nil ?_
          refine block_normal ?_
          replace hH := hH.pick [1, 0, 2, 3, 4, 5] (Hs' := [_, _, _, _, _, _]) rfl
          replace hH := hH.pick [0, 1] (Hs' := [_, _]) rfl
          exact ⟨_, (by rw [hs2]; omega), i + 1, v_t91, N_t91, N_dt91, hA.sub ⟨(by rw [hs2]; rfl), rfl, rfl, rfl, rfl, trivial⟩, hH, by (rw [hs1]; rw [List.nil_append, List.drop_take, show k_t29 + w29.1.toNat - k_t29 = w29.1.toNat by omega, ← hx] at hR_t91; exact hR_t91), rfl⟩
        · skip
          have hf := fr_mac e3 (by rw [← hF, ← e1]; exact hlong) (by rw [← hF, ← e1]; exact hs80)
          have hst : scanV l = scN l i := scanV_of (by rw [← hz]; exact hf)
          refine apq hA 17 rfl (by kernel_rfl) (by intro c a d v w h; cases d <;> exact h) (fun w => (q_extract rfl rfl)) rfl (listed' := #[true, true, true, true, true, true, true, true, true, true, true, true, true, true, true, true, true, true, false, false]) rfl fun a hA => ?_
          refine apq hA 18 rfl (by kernel_rfl) (by intro c a d v w h; cases d <;> exact h) (fun w => (q_assign rfl)) rfl (listed' := #[true, true, true, true, true, true, true, true, true, true, true, true, true, true, true, true, true, true, true, false]) rfl fun a hA => ?_
          refine apq hA 19 rfl (by kernel_rfl) (by intro c a d v w h; cases d <;> exact h) (fun w => (q_assign rfl)) rfl (listed' := #[true, true, true, true, true, true, true, true, true, true, true, true, true, true, true, true, true, true, true, true]) rfl fun a hA => ?_
          refine a_end (by kernel_rfl) ?_ _
          refine hK19 _ _ ?_
          clear hK19
          replace hA := hA.sub (E' := [(12, _), (81, _), (80, _), (64, _), (79, _), (78, _), (77, _), (76, _), (75, _), (74, _), (73, _), (72, _), (71, _), (70, _), (69, _), (68, _), (67, _), (66, _), (65, _), (11, _), (63, _), (62, _), (10, _), (61, _), (60, _), (59, _), (58, _), (57, _), (56, _), (55, _), (54, _), (53, _), (52, _), (51, _), (50, _), (49, _), (48, _), (47, _), (46, _), (45, _), (44, _), (43, _), (42, _), (41, _), (40, _), (39, _), (38, _), (37, _), (36, _), (9, _), (35, _), (34, _), (33, _), (32, _), (31, _), (8, _), (30, _), (29, _), (28, _), (7, _), (27, _), (26, _), (6, _), (25, _), (24, _), (23, _), (22, _), (21, _), (20, _), (19, _), (18, _), (17, _), (16, _), (15, _), (14, _), (5, _), (4, _), (3, _), (2, _), (0, _)]) ⟨rfl, rfl, rfl, rfl, rfl, rfl, rfl, rfl, rfl, rfl, rfl, rfl, rfl, rfl, rfl, rfl, rfl, rfl, rfl, rfl, rfl, rfl, rfl, rfl, rfl, rfl, rfl, rfl, rfl, rfl, rfl, rfl, rfl, rfl, rfl, rfl, rfl, rfl, rfl, rfl, rfl, rfl, rfl, rfl, rfl, rfl, rfl, rfl, rfl, rfl, rfl, rfl, rfl, rfl, rfl, rfl, rfl, rfl, rfl, rfl, rfl, rfl, rfl, rfl, rfl, rfl, rfl, rfl, rfl, rfl, rfl, rfl, rfl, rfl, rfl, rfl, rfl, rfl, rfl, rfl, trivial⟩
          refine wp_seq_k fun K22 hK22 => ?_
          refine wp_region_lit ?_
          refine sq hA (q_move rfl) rfl fun a hA => ?_
          refine sq hA (q_not rfl) rfl fun a hA => ?_
          refine wpList_nil ?_
          refine hK22 _ _ ?_
          clear hK22
          refine cond_t hA rfl ?_
          refine wp_exit ?_
          refine then_exit ?_
          refine exit_out rfl ?_
          refine then_exit ?_
          refine exit_here ?_
          refine hK5 _ _ ?_
          clear hK5
          replace hA := hA.sub (E' := [(5, _), (4, _), (3, _), (2, _)]) ⟨rfl, rfl, rfl, rfl, trivial⟩
          refine wp_seq_k fun K23 hK23 => ?_
          refine wp_region_lit ?_
          refine sq hA (q_move rfl) rfl fun a hA => ?_
          refine sq hA (q_move rfl) rfl fun a hA => ?_
          refine sq hA (q_assign rfl) rfl fun a hA => ?_
          refine sq hA (q_assign rfl) rfl fun a hA => ?_
          refine wpList_nil ?_
          refine hK23 _ _ ?_
          clear hK23
          replace hA := hA.sub (E' := [(3, _), (2, _)]) ⟨rfl, rfl, trivial⟩
          refine wp_ret ?_
          refine noGoto_ret ?_
          refine post_ret hA (res_2 rfl hA rfl rfl) ?_
          replace hH := hH.pick [3, 4, 0, 1, 2] (Hs' := [_, _, _, _, _]) rfl
          replace hH := hH.pick [0, 1] (Hs' := [_, _]) rfl
          exact ⟨_, rfl, v_o, N_o, N_od, by rw [hst, hz], by rw [hst]; exact hR_o, hH⟩
  · skip
    have hf : frV (l.drop z) = none := by rw [List.drop_eq_nil_of_le (by omega)]; exact frV_nil
    have hst : scanV l = scN l i := scanV_of (by rw [← hz]; exact hf)
    refine wp_exit ?_
    refine then_exit ?_
    refine then_exit ?_
    refine exit_here ?_
    refine hK5 _ _ ?_
    clear hK5
    replace hA := hA.sub (E' := [(5, _), (4, _), (3, _), (2, _)]) ⟨rfl, rfl, rfl, rfl, trivial⟩
    refine wp_seq_k fun K24 hK24 => ?_
    refine wp_region_lit ?_
    refine sq hA (q_move rfl) rfl fun a hA => ?_
    refine sq hA (q_move rfl) rfl fun a hA => ?_
    refine sq hA (q_assign rfl) rfl fun a hA => ?_
    refine sq hA (q_assign rfl) rfl fun a hA => ?_
    refine wpList_nil ?_
    refine hK24 _ _ ?_
    clear hK24
    replace hA := hA.sub (E' := [(3, _), (2, _)]) ⟨rfl, rfl, trivial⟩
    refine wp_ret ?_
    refine noGoto_ret ?_
    refine post_ret hA (res_2 rfl hA rfl rfl) ?_
    exact ⟨_, rfl, v_o, N_o, N_od, by rw [hst, hz], by rw [hst]; exact hR_o, hH⟩

end Go.Proofs.YtokcbfklogjnfaaDoor
