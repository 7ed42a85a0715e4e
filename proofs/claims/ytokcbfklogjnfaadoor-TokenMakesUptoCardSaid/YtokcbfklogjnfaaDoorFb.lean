/- Layer 17 (token): checking. -/
import Derived.Test.YtokcbfklogjnfaaDoorFa
namespace Go.Proofs.YtokcbfklogjnfaaDoor
open Go
set_option linter.unusedVariables false
set_option linter.unusedSimpArgs false
set_option maxRecDepth 100000

theorem refrnum_q {w0 : World} (b_r : Nat) (v : Value) (q : RS) (hB : By [b_r] w0 v q.1) (hl : q.1.length ≤ 1048576) (most : BitVec 64) (m : Nat) (hm : most.toNat = m) (hH : HS [b_r] w0 w0 [[(b_r, Obj.cells [v, I (q.2)].toArray 77 (0, 0))]]) : Calls Tryd.prog 45 #[(.pointer (some ⟨b_r, 0, none⟩)), U64 most] w0 (Ret fun r w' => ∃ v', r = U64 (rNum m q).1 ∧ (∀ M w, By M w v q.1 → By M w v' (rNum m q).2.1) ∧ HS [b_r] w0 w' [[(b_r, Obj.cells [v', I ((rNum m q).2.2)].toArray 77 (0, 0))]]) := refrnum_any b_r v q.1 q.2 hB hl most m hm hH
theorem refrdig_q {w0 : World} (b_r : Nat) (v : Value) (q : RS) (hB : By [b_r] w0 v q.1) (hl : q.1.length ≤ 1048576) (hH : HS [b_r] w0 w0 [[(b_r, Obj.cells [v, I (q.2)].toArray 77 (0, 0))]]) : Calls Tryd.prog 46 #[(.pointer (some ⟨b_r, 0, none⟩))] w0 (Ret fun r w' => ∃ v', r = .agg ((rDig q).1.map B8).toArray ∧ (∀ M w, By M w v q.1 → By M w v' (rDig q).2.1) ∧ HS [b_r] w0 w' [[(b_r, Obj.cells [v', I ((rDig q).2.2)].toArray 77 (0, 0))]]) := refrdig_any b_r v q.1 q.2 hB hl hH
theorem refrend_q {w0 : World} (b_r : Nat) (v : Value) (q : RS) (hB : By [b_r] w0 v q.1) (hl : q.1.length ≤ 1048576) (hH : HS [b_r] w0 w0 [[(b_r, Obj.cells [v, I (q.2)].toArray 77 (0, 0))]]) : Calls Tryd.prog 47 #[(.pointer (some ⟨b_r, 0, none⟩))] w0 (Ret fun r w' => r = I (rEnd q).1 ∧ HS [b_r] w0 w' [[(b_r, Obj.cells [v, I ((rEnd q).1)].toArray 77 (0, 0))]]) := refrend_any b_r v q.1 q.2 hB hl hH
set_option maxHeartbeats 1000000 in
theorem checkt_any {w0 : World} {lv : Nat} (hg : Gl lv w0) (s : Bs) (hs : s.length = 32) (v : Value) (l : Bs) (hr : By [] w0 v l) (hl : l.length ≤ 1000000) :
    Calls Tryd.prog 23 #[(.agg ((s).map B8).toArray), v] w0 (Ret fun r w' => r = .tuple #[.agg (((chkT s l).1.map I).toArray), I (chkT s l).2] ∧ HS [] w0 w' []) := by
  have hH := HS.start w0
  refine start (n := 59) (E := [(0, _), (1, _)]) Tryd.func23 rfl rfl rfl (args_look rfl) ?_
  intro a hA
  refine wp_seq_k fun K1 hK1 => ?_
  refine wp_region_lit ?_
  refine sl hA (lo_boxA hH rfl) rfl ?_
  clear hH; rintro _ w ⟨b_t2, rfl, hH⟩ a hA
  refine sl hA (lo_allocA hH ti44) rfl ?_
  clear hH; rintro _ w ⟨b_t4, rfl, hH⟩ a hA
  replace hH : HS _ _ _ ([(b_t4, Obj.cells ((List.replicate 6 (0 : Int)).map I).toArray 44 (0, 0))] :: _) := hH
  refine sq hA (q_assign rfl) rfl fun a hA => ?_
  refine wpList_nil ?_
  refine hK1 _ _ ?_
  clear hK1
  replace hA := hA.sub (E' := [(5, _), (4, _), (2, _), (1, _)]) ⟨rfl, rfl, rfl, rfl, trivial⟩
  refine wp_seq_k fun K2 hK2 => ?_
  refine wp_region_lit ?_
  refine sq hA (q_move rfl) rfl fun a hA => ?_
  refine sl hA (lo_call fn35 rfl (read_any _ _ (hH.rd hr) (by first | omega | (simp; done) | (simp; omega)))) rfl ?_
  rintro _ w ⟨b_t18, v_d18, N_d18, rfl, hO_d18, hC⟩ a hA
  replace hH := HS.call0 hH hC
  clear hC
  refine sq hA (q_assign rfl) rfl fun a hA => ?_
  refine wpList_nil ?_
  refine hK2 _ _ ?_
  clear hK2
  replace hA := hA.sub (E' := [(6, _), (5, _), (4, _), (2, _), (1, _)]) ⟨rfl, rfl, rfl, rfl, rfl, trivial⟩
  refine wp_seq_k fun K3 hK3 => ?_
  refine wp_region_lit ?_
  refine sl hA (lo_allocA hH ti44) rfl ?_
  clear hH; rintro _ w ⟨b_t7, rfl, hH⟩ a hA
  replace hH : HS _ _ _ ([(b_t7, Obj.cells ((List.replicate 6 (0 : Int)).map I).toArray 44 (0, 0))] :: _) := hH
  refine wpList_nil ?_
  refine hK3 _ _ ?_
  clear hK3
  refine wp_seq_k fun K4 hK4 => ?_
  refine wp_region_lit ?_
  refine sq hA (q_move rfl) rfl fun a hA => ?_
  refine sq hA (q_makeFunc rfl rfl) rfl fun a hA => ?_
  refine sq hA (q_assign rfl) rfl fun a hA => ?_
  refine wpList_nil ?_
  refine hK4 _ _ ?_
  clear hK4
  replace hA := hA.sub (E' := [(8, _), (7, _), (6, _), (5, _), (4, _), (2, _), (1, _)]) ⟨rfl, rfl, rfl, rfl, rfl, rfl, rfl, trivial⟩
  refine wp_seq_k fun K5 hK5 => ?_
  refine wp_seq_k fun K6 hK6 => ?_
  refine wp_region_lit ?_
  refine sl hA (lo_call fn41 rfl (fields_any b_t7)) rfl ?_
  rintro _ w ⟨rfl, hC⟩ a hA
  replace hH := HS.call0 hH hC
  clear hC
  refine sq hA (q_move rfl) rfl fun a hA => ?_
  refine wpList_nil ?_
  refine hK6 _ _ ?_
  clear hK6
  refine wp_block ?_
  replace hH := hH.pick [1, 2, 0, 3, 4] (Hs' := [_, _, _, _, _]) rfl
  replace hH := HS.fold [_, _, _] [_, _] hH
  obtain ⟨NR7, hNR7, hH⟩ := hH
  refine wp_loop_ghost (fun gm a w => ∃ i : Nat, ∃ k : Nat, At 59 [(22, I i), (21, (.agg ((List.range 6).map (pb b_t7)).toArray)), (8, (.func (.func 36) #[.pointer (some ⟨b_t18, 0, none⟩)] #[])), (7, (.pointer (some ⟨b_t7, 0, none⟩))), (6, (.pointer (some ⟨b_t18, 0, none⟩))), (5, (I 0)), (4, (.pointer (some ⟨b_t4, 0, none⟩))), (2, (.pointer (some ⟨b_t2, 0, none⟩))), (1, v)] a ∧ HS [] w0 w ([[(b_t18, Obj.cells [v_d18, I (k), I ((rT (l, 0) i).2.2)].toArray 89 (0, 0))], N_d18, [(b_t7, Obj.cells ((((rT (l, 0) i).1 ++ List.replicate (6 - i) (0 : Int) : List Int)).map I).toArray 44 (0, 0))], NR7]) ∧ (i ≤ 6) ∧ (k ≤ l.length) ∧ (l.drop k = (rT (l, 0) i).2.1) ∧ gm = 6 - i) (6 - (0)) ⟨0, 0, hA.sub ⟨rfl, rfl, rfl, rfl, rfl, rfl, rfl, rfl, rfl, trivial⟩, hH, by omega, by omega, by rfl, rfl⟩ ?_
  clear hA hH
  rintro gm a w ⟨i, k, hA, hH, hi, hk, hd, rfl⟩
  refine wp_seq_k fun K8 hK8 => ?_
  refine wp_region_lit ?_
  refine sq hA (q_lssI (n := 6) rfl rfl) rfl fun a hA => ?_
  refine wpList_nil ?_
  refine hK8 _ _ ?_
  clear hK8
  refine wp_seq_k fun K9 hK9 => ?_
  refine cond_d hA rfl (fun hc23 => ?_) (fun hc23 => ?_)
  · skip
    refine wp_skip ?_
    refine hK9 _ _ ?_
    clear hK9
    refine wp_seq_k fun K10 hK10 => ?_
    refine wp_block ?_
    refine wp_seq_k fun K11 hK11 => ?_
    refine wp_region_lit ?_
    refine sq hA (q_indexm (f := pb b_t7) (0 : Nat) i Tryd.underlying70 ti69 Tryd.underlying69 rfl rfl rfl rfl (by omega) (by simp; omega)) rfl fun a hA => ?_
    rw [range_at (by omega)] at hA
    rw [show pb b_t7 i = (.pointer (some ⟨b_t7, i, none⟩)) from rfl] at hA
    refine sq hA (q_assign rfl) rfl fun a hA => ?_
    refine wpList_nil ?_
    refine hK11 _ _ ?_
    clear hK11
    refine wp_region_lit ?_
    refine sq hA (q_move rfl) rfl fun a hA => ?_
    refine sq hA (q_move rfl) rfl fun a hA => ?_
    refine sl hA (lo_callv (first := _) (cap := _) fn36 rfl rfl (rnum_any b_t18 _ _ _ _ (Own.rdM hO_d18 (Ns1 := [_]) hH 0 rfl) (by omega) (by omega) 1099511627776#64 tM (by decide) (HS.handed (Ns1 := [_]) hH))) rfl ?_
    rintro _ w ⟨k_t27, rfl, hk_t27, hd_t27, hC⟩ a hA
    replace hH := HS.call (Ns1 := [_]) hH hC
    clear hC
    have eS : (rT (l, 0) i).2 = (l.drop k, (rT (l, 0) i).2.2) := Prod.ext hd.symm rfl
    have hle := rNum_le tM (l.drop k, (rT (l, 0) i).2.2)
    refine sq hA (q_cv64_I Tryd.underlying61 Tryd.underlying3 rfl (by exact Nat.le_trans hle (by decide))) rfl fun a hA => ?_
    refine sq hA (q_nilCheck rfl) rfl fun a hA => ?_
    replace hH := hH.pick [2, 0, 1, 3] (Hs' := [_, _, _, _]) rfl
    refine s0 hA (lo_store1m (f := I) hH ti3 rfl rfl (by simp; omega) rfl) ?_
    clear hH; rintro _ w hH
    refine wpList_nil ?_
    refine block_normal ?_
    refine hK10 _ _ ?_
    clear hK10
    refine wp_region_lit ?_
    refine sq hA (q_addI (n := 1) rfl rfl (by omega)) rfl fun a hA => ?_
    refine sq hA (q_move rfl) rfl fun a hA => ?_
    refine wpList_nil ?_
    replace hH := hH.pick [1, 2, 0, 3] (Hs' := [_, _, _, _]) rfl
    exact ⟨_, by omega, i + 1, k_t27, hA.sub ⟨rfl, rfl, rfl, rfl, rfl, rfl, rfl, rfl, rfl, trivial⟩, (by rw [← eS] at hH; rw [rT_set (l, 0) (i := i) (by omega)] at hH; exact hH), by omega, by exact hk_t27, by (rw [hd_t27, rT, eS]), rfl⟩
  · skip
    obtain rfl : i = 6 := by omega
    have eR : rT (l, 0) 6 = ((rT (l, 0) 6).1, l.drop k, (rT (l, 0) 6).2.2) := Prod.ext rfl (Prod.ext hd.symm rfl)
    obtain ⟨e6, he6⟩ : ∃ e6, e6 = (rT (l, 0) 6).2.2 := ⟨_, rfl⟩
    rw [← he6] at hH eR
    have hq6 : (rT (l, 0) 6).2 = (l.drop k, e6) := by rw [eR]
    clear he6
    have hdl := rDig_length (l.drop k, e6)
    rw [Nat.sub_self, List.replicate_zero, List.append_nil] at hH
    refine wp_exit ?_
    refine then_exit ?_
    replace hH := HS.unfold [_, _, _] hNR7 hH
    refine then_exit ?_
    refine exit_here ?_
    refine hK5 _ _ ?_
    clear hK5
    replace hA := hA.sub (E' := [(7, _), (6, _), (5, _), (4, _), (2, _), (1, _)]) ⟨rfl, rfl, rfl, rfl, rfl, rfl, trivial⟩
    refine wp_seq_k fun K12 hK12 => ?_
    refine wp_region_lit ?_
    refine sq hA (q_move rfl) rfl fun a hA => ?_
    refine sq hA (q_len Tryd.underlying22 rfl (Rd.shp hr)) rfl fun a hA => ?_
    refine sq hA (q_move rfl) rfl fun a hA => ?_
    refine sl hA (lo_call fn37 rfl (left_any b_t18 _ _ _ _ (Own.rdM hO_d18 (Ns1 := [_]) hH 0 rfl) (by assumption) (by omega) (HS.handed (Ns1 := [_]) hH))) rfl ?_
    rintro _ w ⟨rfl, hC⟩ a hA
    replace hH := HS.call (Ns1 := [_]) hH hC
    clear hC
    have hdlen := List.length_drop (l := l) (i := k)
    refine sq hA (q_subI rfl rfl (by omega)) rfl fun a hA => ?_
    rw [show ((l.length : Int) - ((l.drop k).length : Nat)) = ((l.length - (rT (l, 0) 6).2.1.length : Nat) : Int) by rw [← hd, List.length_drop]; omega] at hA
    refine sq hA (q_assign rfl) rfl fun a hA => ?_
    refine wpList_nil ?_
    refine hK12 _ _ ?_
    clear hK12
    replace hA := hA.sub (E' := [(11, _), (7, _), (6, _), (5, _), (4, _), (2, _), (1, _)]) ⟨rfl, rfl, rfl, rfl, rfl, rfl, rfl, trivial⟩
    refine wp_seq_k fun K13 hK13 => ?_
    refine wp_region_lit ?_
    refine sq hA (q_move rfl) rfl fun a hA => ?_
    refine sl hA (lo_call fn42 rfl (rdig_any b_t18 _ _ _ _ (Own.rdM hO_d18 (Ns1 := [_]) hH 0 rfl) (by assumption) (by omega) (HS.handed (Ns1 := [_]) hH))) rfl ?_
    rintro _ w ⟨k_t37, rfl, hk_t37, hd_t37, hC⟩ a hA
    replace hH := HS.call (Ns1 := [_]) hH hC
    clear hC
    have eD : (rDig (l.drop k, e6)).2 = (l.drop k_t37, (rDig (l.drop k, e6)).2.2) := Prod.ext hd_t37.symm rfl
    obtain ⟨q, hq⟩ : ∃ q, q = rDig (l.drop k, e6) := ⟨_, rfl⟩
    rw [← hq] at hA hH eD hdl
    refine sl hA (lo_allocA hH ti42) rfl ?_
    clear hH; rintro _ w ⟨b_t12, rfl, hH⟩ a hA
    refine s0 hA (lo_storeAm hH ti42 rfl rfl (by first | omega | (simp; done) | (simp; omega) | (rw [List.length_map]; assumption) | assumption | rfl | (simp [*]; done) | (simp [*]; omega)) (by first | omega | (simp; done) | (simp; omega) | (rw [List.length_map]; assumption) | assumption | rfl | (simp [*]; done) | (simp [*]; omega)) (one_B8 _)) ?_
    clear hH; rintro _ w hH
    refine wpList_nil ?_
    refine hK13 _ _ ?_
    clear hK13
    replace hA := hA.sub (E' := [(12, _), (11, _), (7, _), (6, _), (5, _), (4, _), (2, _), (1, _)]) ⟨rfl, rfl, rfl, rfl, rfl, rfl, rfl, rfl, trivial⟩
    refine wp_seq_k fun K14 hK14 => ?_
    refine wp_seq_k fun K15 hK15 => ?_
    refine wp_region_lit ?_
    refine sq hA (q_move rfl) rfl fun a hA => ?_
    replace hH := hH.pick [1, 0, 2, 3, 4, 5] (Hs' := [_, _, _, _, _, _]) rfl
    refine sl hA (lo_call fn43 rfl (rend_any b_t18 _ _ _ _ (Own.rdM hO_d18 (Ns1 := [_]) hH 1 rfl) (by assumption) (by omega) (HS.handed (Ns1 := [_]) hH))) rfl ?_
    rintro _ w ⟨rfl, hC⟩ a hA
    replace hH := HS.call (Ns1 := [_]) hH hC
    clear hC
    refine sq hA (q_assign rfl) rfl fun a hA => ?_
    refine wpList_nil ?_
    refine hK15 _ _ ?_
    clear hK15
    replace hA := hA.sub (E' := [(13, _), (12, _), (11, _), (7, _), (5, _), (4, _), (2, _), (1, _)]) ⟨rfl, rfl, rfl, rfl, rfl, rfl, rfl, rfl, trivial⟩
    refine wp_seq_k fun K16 hK16 => ?_
    refine wp_region_lit ?_
    refine sq hA (q_move rfl) rfl fun a hA => ?_
    refine sq hA (q_neqI (n := 0) rfl rfl) rfl fun a hA => ?_
    refine wpList_nil ?_
    refine hK16 _ _ ?_
    clear hK16
    replace hA := hA.sub (E' := [(41, _), (13, _), (12, _), (11, _), (7, _), (5, _), (4, _), (2, _), (1, _)]) ⟨rfl, rfl, rfl, rfl, rfl, rfl, rfl, rfl, rfl, trivial⟩
    refine cond_d hA rfl (fun hc41 => ?_) (fun hc41 => ?_)
    · skip
      have hR : chkT s l = _ := chkT_e (key := s) (by rw [hq6, ← hq, eD]; omega)
      rw [hq6, ← hq, eD] at hR
      refine wp_seq_k fun K17 hK17 => ?_
      refine wp_region_lit ?_
      refine sq hA (q_build (v := .agg ((List.replicate 6 (0 : Int)).map I).toArray) (vs := []) rfl (fun w => run_build w _ _ _ (by kernel_rfl))) rfl fun a hA => ?_
      refine sq hA (q_move rfl) rfl fun a hA => ?_
      replace hH := hH.pick [4, 0, 1, 2, 3, 5] (Hs' := [_, _, _, _, _, _]) rfl
      refine s0 hA (lo_storeAm hH ti44 rfl rfl (by first | (simp; done) | (rw [List.length_map]; assumption) | rfl | (simp [*]; done)) (by first | (simp; done) | (rw [List.length_map]; assumption) | rfl | (simp [*]; done)) (one_I _)) ?_
      clear hH; rintro _ w hH
      refine sq hA (q_assign rfl) rfl fun a hA => ?_
      refine wpList_nil ?_
      refine hK17 _ _ ?_
      clear hK17
      replace hA := hA.sub (E' := [(5, _), (12, _), (11, _), (7, _), (4, _), (2, _), (1, _)]) ⟨rfl, rfl, rfl, rfl, rfl, rfl, rfl, trivial⟩
      refine wp_ret ?_
      refine then_ret ?_
      refine post_ret hA (res_c1 rfl hA rfl rfl (resW hH 0 rfl Tryd.underlying44 rfl ti44 (by first | rfl | (simp; done)))) ?_
      replace hH := hH.pick [] (Hs' := []) rfl
      exact ⟨_, rfl, tupE hR, hH⟩
    · skip
      have hE0 : ¬ (rEnd (rDig (rT (l, 0) 6).2).2).1 ≠ 0 := by rw [hq6, ← hq, eD]; omega
      refine wp_skip ?_
      refine hK14 _ _ ?_
      clear hK14
      replace hA := hA.sub (E' := [(12, _), (11, _), (7, _), (5, _), (4, _), (2, _), (1, _)]) ⟨rfl, rfl, rfl, rfl, rfl, rfl, rfl, trivial⟩
      refine wp_seq_k fun K18 hK18 => ?_
      refine any_go mixed (fun j => !(Nat.beq j 4 || Nat.beq j 5 || Nat.beq j 6)) hH ?_
      clear hH; intro w hH
      have hS := hH
      change wpK _ _ _ _ _ _ 7 #[false, false, false, false, false, false, false] _ _
      refine apq hA 0 rfl (by kernel_rfl) (by intro c a d v w h; cases d <;> exact h) (fun w => (q_sliceAll Tryd.underlying42 ti5 rfl)) rfl (listed' := #[true, false, false, false, false, false, false]) rfl fun a hA => ?_
      refine apq hA 1 rfl (by kernel_rfl) (by intro c a d v w h; cases d <;> exact h) (fun w => (q_move rfl)) rfl (listed' := #[true, true, false, false, false, false, false]) rfl fun a hA => ?_
      refine apq hA 2 rfl (by kernel_rfl) (by intro c a d v w h; cases d <;> exact h) (fun w => (q_move rfl)) rfl (listed' := #[true, true, true, false, false, false, false]) rfl fun a hA => ?_
      obtain ⟨v_t47, hv_t47, hO_t47⟩ := Rm.cut0 hr (l.length - (rT (l, 0) 6).2.1.length) (by omega)
      refine apq hA 3 rfl (by kernel_rfl) (by intro c a d v w h; cases d <;> exact h) (fun w => (q_slice Tryd.underlying22 ti5 rfl (0) (l.length - (rT (l, 0) 6).2.1.length) hv_t47 (Rd.shp hr) rfl rfl (rfl) (by rw [← hd]) (by omega) (by omega))) rfl (listed' := #[true, true, true, true, false, false, false]) rfl fun a hA => ?_
      refine a_ch2 (i := 4) (j := 5) (by kernel_rfl) ?_ ?_
      · skip
        refine oneL hA 4 rfl (lo_call fn44 rfl (mac_any (hg.mono0 hH) _ _ _ _ (HS.byB hH 5 rfl (by first | assumption | (rw [List.length_map]; assumption) | rfl | exact sha_length _ | (simp; done) | (simp [*]; done) | omega)) (hH.rd hO_t47) (by first | omega | (simp; done) | (simp; omega)) (by first | omega | (simp; done) | (simp; omega)))) rfl (listed' := #[true, true, true, true, true, false, false]) rfl ?_
        rintro _ w ⟨rfl, hC⟩
        replace hH := HS.call0 hH hC
        clear hC
        refine ⟨fun _ h => absurd h (by decide), ?_⟩
        intro a hA
        refine al hA 5 rfl (by kernel_rfl) (lo_allocA hH ti42) rfl (listed' := #[true, true, true, true, true, true, false]) rfl ?_
        clear hH; rintro _ w ⟨b_t14, rfl, hH⟩
        refine ⟨fun _ h => absurd h (by decide), ?_⟩
        intro a hA
        refine al0 hA 6 rfl (by kernel_rfl) (lo_storeAm hH ti42 rfl rfl (by first | omega | (simp; done) | (simp; omega) | (rw [List.length_map]; assumption) | assumption | rfl | (simp [*]; done) | (simp [*]; omega)) (by first | omega | (simp; done) | (simp; omega) | (rw [List.length_map]; assumption) | assumption | rfl | (simp [*]; done) | (simp [*]; omega)) (one_B8 _)) (listed' := #[true, true, true, true, true, true, true]) rfl ?_
        clear hH; rintro _ w hH
        refine ⟨fun _ h => absurd h (by decide), ?_⟩
        refine a_end (by kernel_rfl) ?_ _
        refine hK18 _ _ ?_
        clear hK18
        replace hA := hA.sub (E' := [(14, _), (12, _), (7, _), (5, _), (4, _)]) ⟨rfl, rfl, rfl, rfl, rfl, trivial⟩
        refine wp_seq_k fun K19 hK19 => ?_
        refine wp_seq_k fun K20 hK20 => ?_
        refine any_go mixed (fun j => !(Nat.beq j 2)) hH ?_
        clear hH; intro w hH
        have hS := hH
        change wpK _ _ _ _ _ _ 8 #[false, false, false, false, false, false, false, false] _ _
        refine apq hA 0 rfl (by kernel_rfl) (by intro c a d v w h; cases d <;> exact h) (fun w => (q_sliceAll Tryd.underlying42 ti5 rfl)) rfl (listed' := #[true, false, false, false, false, false, false, false]) rfl fun a hA => ?_
        refine apq hA 1 rfl (by kernel_rfl) (by intro c a d v w h; cases d <;> exact h) (fun w => (q_sliceAll Tryd.underlying42 ti5 rfl)) rfl (listed' := #[true, true, false, false, false, false, false, false]) rfl fun a hA => ?_
        refine al hA 2 rfl (by kernel_rfl) (lo_call fn39 rfl (msame_any _ _ _ _ (HS.byB hH 0 rfl (by first | assumption | (rw [List.length_map]; assumption) | rfl | exact sha_length _ | (simp; done) | (simp [*]; done) | omega)) (HS.byB hH 2 rfl (by first | assumption | (rw [List.length_map]; assumption) | rfl | exact sha_length _ | (simp; done) | (simp [*]; done) | omega)) (by first | omega | (simp; done) | (simp; omega)) (by first | omega | (simp; done) | (simp; omega)))) rfl (listed' := #[true, true, true, false, false, false, false, false]) rfl ?_
        rintro _ w ⟨rfl, hC⟩
        replace hH := HS.call0 hH hC
        clear hC
        refine ⟨fun _ h => absurd h (by decide), ?_⟩
        intro a hA
        refine apq hA 3 rfl (by kernel_rfl) (by intro c a d v w h; cases d <;> exact h) (fun w => (q_move rfl)) rfl (listed' := #[true, true, true, true, false, false, false, false]) rfl fun a hA => ?_
        refine apq hA 4 rfl (by kernel_rfl) (by intro c a d v w h; cases d <;> exact h) (fun w => (q_extract rfl rfl)) rfl (listed' := #[true, true, true, true, true, false, false, false]) rfl fun a hA => ?_
        refine hA.spl (fun hs53 hA => ?_) (fun hs53 hA => ?_)
        · skip
          have hR : chkT s l = _ := chkT_o (key := s) hE0 (by have h := hs53; rw [hq6] at h ⊢; rw [← hq]; exact h)
          refine apq hA 5 rfl (by kernel_rfl) (by intro c a d v w h; cases d <;> exact h) (fun w => (q_extract rfl rfl)) rfl (listed' := #[true, true, true, true, true, true, false, false]) rfl fun a hA => ?_
          refine apq hA 6 rfl (by kernel_rfl) (by intro c a d v w h; cases d <;> exact h) (fun w => (q_assign rfl)) rfl (listed' := #[true, true, true, true, true, true, true, false]) rfl fun a hA => ?_
          refine apq hA 7 rfl (by kernel_rfl) (by intro c a d v w h; cases d <;> exact h) (fun w => (q_assign rfl)) rfl (listed' := #[true, true, true, true, true, true, true, true]) rfl fun a hA => ?_
          refine a_end (by kernel_rfl) ?_ _
          refine hK20 _ _ ?_
          clear hK20
          replace hA := hA.sub (E' := [(15, _), (7, _), (5, _), (4, _)]) ⟨rfl, rfl, rfl, rfl, trivial⟩
          refine wp_seq_k fun K21 hK21 => ?_
          refine wp_region_lit ?_
          refine sq hA (q_move rfl) rfl fun a hA => ?_
          refine sq hA (q_not rfl) rfl fun a hA => ?_
          refine wpList_nil ?_
          refine hK21 _ _ ?_
          clear hK21
          replace hA := hA.sub (E' := [(56, _), (7, _), (5, _), (4, _)]) ⟨rfl, rfl, rfl, rfl, trivial⟩
          refine cond_f hA rfl ?_
          refine wp_skip ?_
          refine hK19 _ _ ?_
          clear hK19
          replace hA := hA.sub (E' := [(7, _), (5, _), (4, _)]) ⟨rfl, rfl, rfl, trivial⟩
          refine wp_seq_k fun K22 hK22 => ?_
          refine wp_region_lit ?_
          refine sq hA (q_loadW hH 4 rfl Tryd.underlying44 rfl ti44 rfl (by first | omega | (simp; done) | (simp; omega) | (rw [List.length_map]; assumption) | assumption | rfl | (simp [*]; done) | (simp [*]; omega))) rfl fun a hA => ?_
          replace hH := hH.pick [5, 0, 1, 2, 3, 4, 6] (Hs' := [_, _, _, _, _, _, _]) rfl
          refine s0 hA (lo_storeAm hH ti44 rfl rfl (by first | (simp; done) | (rw [List.length_map]; assumption) | rfl | (simp [*]; done)) (by first | (simp; done) | (rw [List.length_map]; assumption) | rfl | (simp [*]; done)) (one_I _)) ?_
          clear hH; rintro _ w hH
          refine sq hA (q_assign rfl) rfl fun a hA => ?_
          refine wpList_nil ?_
          refine hK22 _ _ ?_
          clear hK22
          replace hA := hA.sub (E' := [(5, _), (4, _)]) ⟨rfl, rfl, trivial⟩
          refine wp_ret ?_
          refine post_ret hA (res_c1 rfl hA rfl rfl (resW hH 0 rfl Tryd.underlying44 rfl ti44 (by first | rfl | (simp; done)))) ?_
          replace hH := hH.pick [] (Hs' := []) rfl
          exact ⟨_, rfl, tupE hR, hH⟩
        · skip
          have hR : chkT s l = _ := chkT_m (key := s) hE0 (by have h := hs53; rw [hq6] at h ⊢; rw [← hq]; exact h)
          refine apq hA 5 rfl (by kernel_rfl) (by intro c a d v w h; cases d <;> exact h) (fun w => (q_extract rfl rfl)) rfl (listed' := #[true, true, true, true, true, true, false, false]) rfl fun a hA => ?_
          refine apq hA 6 rfl (by kernel_rfl) (by intro c a d v w h; cases d <;> exact h) (fun w => (q_assign rfl)) rfl (listed' := #[true, true, true, true, true, true, true, false]) rfl fun a hA => ?_
          refine apq hA 7 rfl (by kernel_rfl) (by intro c a d v w h; cases d <;> exact h) (fun w => (q_assign rfl)) rfl (listed' := #[true, true, true, true, true, true, true, true]) rfl fun a hA => ?_
          refine a_end (by kernel_rfl) ?_ _
          refine hK20 _ _ ?_
          clear hK20
          replace hA := hA.sub (E' := [(15, _), (7, _), (5, _), (4, _)]) ⟨rfl, rfl, rfl, rfl, trivial⟩
          refine wp_seq_k fun K23 hK23 => ?_
          refine wp_region_lit ?_
          refine sq hA (q_move rfl) rfl fun a hA => ?_
          refine sq hA (q_not rfl) rfl fun a hA => ?_
          refine wpList_nil ?_
          refine hK23 _ _ ?_
          clear hK23
          replace hA := hA.sub (E' := [(56, _), (7, _), (5, _), (4, _)]) ⟨rfl, rfl, rfl, rfl, trivial⟩
          refine cond_t hA rfl ?_
          refine wp_seq_k fun K24 hK24 => ?_
          refine wp_region_lit ?_
          refine sq hA (q_build (v := .agg ((List.replicate 6 (0 : Int)).map I).toArray) (vs := []) rfl (fun w => run_build w _ _ _ (by kernel_rfl))) rfl fun a hA => ?_
          replace hH := hH.pick [5, 0, 1, 2, 3, 4, 6] (Hs' := [_, _, _, _, _, _, _]) rfl
          refine s0 hA (lo_storeAm hH ti44 rfl rfl (by first | (simp; done) | (rw [List.length_map]; assumption) | rfl | (simp [*]; done)) (by first | (simp; done) | (rw [List.length_map]; assumption) | rfl | (simp [*]; done)) (one_I _)) ?_
          clear hH; rintro _ w hH
          refine sq hA (q_assign rfl) rfl fun a hA => ?_
          refine wpList_nil ?_
          refine hK24 _ _ ?_
          clear hK24
          replace hA := hA.sub (E' := [(5, _), (7, _), (4, _)]) ⟨rfl, rfl, rfl, trivial⟩
          refine wp_ret ?_
          refine then_ret ?_
          refine post_ret hA (res_c1 rfl hA rfl rfl (resW hH 0 rfl Tryd.underlying44 rfl ti44 (by first | rfl | (simp; done)))) ?_
          replace hH := hH.pick [] (Hs' := []) rfl
          exact ⟨_, rfl, tupE hR, hH⟩
      · skip
        refine oneL hA 5 rfl (lo_allocA hH ti42) rfl (listed' := #[true, true, true, true, false, true, false]) rfl ?_
        clear hH; rintro _ w ⟨b_t14, rfl, hH⟩
        refine ⟨fun _ h => absurd h (by decide), ?_⟩
        intro a hA
        refine al hA 4 rfl (by kernel_rfl) (lo_call fn44 rfl (mac_any (hg.mono0 hH) _ _ _ _ (HS.byB hH 6 rfl (by first | assumption | (rw [List.length_map]; assumption) | rfl | exact sha_length _ | (simp; done) | (simp [*]; done) | omega)) (hH.rd hO_t47) (by first | omega | (simp; done) | (simp; omega)) (by first | omega | (simp; done) | (simp; omega)))) rfl (listed' := #[true, true, true, true, true, true, false]) rfl ?_
        rintro _ w ⟨rfl, hC⟩
        replace hH := HS.call0 hH hC
        clear hC
        refine ⟨fun _ h => absurd h (by decide), ?_⟩
        intro a hA
        refine al0 hA 6 rfl (by kernel_rfl) (lo_storeAm hH ti42 rfl rfl (by first | omega | (simp; done) | (simp; omega) | (rw [List.length_map]; assumption) | assumption | rfl | (simp [*]; done) | (simp [*]; omega)) (by first | omega | (simp; done) | (simp; omega) | (rw [List.length_map]; assumption) | assumption | rfl | (simp [*]; done) | (simp [*]; omega)) (one_B8 _)) (listed' := #[true, true, true, true, true, true, true]) rfl ?_
        clear hH; rintro _ w hH
        refine ⟨fun _ h => absurd h (by decide), ?_⟩
        refine a_end (by kernel_rfl) ?_ _
        refine hK18 _ _ ?_
        clear hK18
        replace hA := hA.sub (E' := [(14, _), (12, _), (7, _), (5, _), (4, _)]) ⟨rfl, rfl, rfl, rfl, rfl, trivial⟩
        refine wp_seq_k fun K25 hK25 => ?_
        refine wp_seq_k fun K26 hK26 => ?_
        refine any_go mixed (fun j => !(Nat.beq j 2)) hH ?_
        clear hH; intro w hH
        have hS := hH
        change wpK _ _ _ _ _ _ 8 #[false, false, false, false, false, false, false, false] _ _
        refine apq hA 0 rfl (by kernel_rfl) (by intro c a d v w h; cases d <;> exact h) (fun w => (q_sliceAll Tryd.underlying42 ti5 rfl)) rfl (listed' := #[true, false, false, false, false, false, false, false]) rfl fun a hA => ?_
        refine apq hA 1 rfl (by kernel_rfl) (by intro c a d v w h; cases d <;> exact h) (fun w => (q_sliceAll Tryd.underlying42 ti5 rfl)) rfl (listed' := #[true, true, false, false, false, false, false, false]) rfl fun a hA => ?_
        refine al hA 2 rfl (by kernel_rfl) (lo_call fn39 rfl (msame_any _ _ _ _ (HS.byB hH 0 rfl (by first | assumption | (rw [List.length_map]; assumption) | rfl | exact sha_length _ | (simp; done) | (simp [*]; done) | omega)) (HS.byB hH 2 rfl (by first | assumption | (rw [List.length_map]; assumption) | rfl | exact sha_length _ | (simp; done) | (simp [*]; done) | omega)) (by first | omega | (simp; done) | (simp; omega)) (by first | omega | (simp; done) | (simp; omega)))) rfl (listed' := #[true, true, true, false, false, false, false, false]) rfl ?_
        rintro _ w ⟨rfl, hC⟩
        replace hH := HS.call0 hH hC
        clear hC
        refine ⟨fun _ h => absurd h (by decide), ?_⟩
        intro a hA
        refine apq hA 3 rfl (by kernel_rfl) (by intro c a d v w h; cases d <;> exact h) (fun w => (q_move rfl)) rfl (listed' := #[true, true, true, true, false, false, false, false]) rfl fun a hA => ?_
        refine apq hA 4 rfl (by kernel_rfl) (by intro c a d v w h; cases d <;> exact h) (fun w => (q_extract rfl rfl)) rfl (listed' := #[true, true, true, true, true, false, false, false]) rfl fun a hA => ?_
        refine hA.spl (fun hs53 hA => ?_) (fun hs53 hA => ?_)
        · skip
          have hR : chkT s l = _ := chkT_o (key := s) hE0 (by have h := hs53; rw [hq6] at h ⊢; rw [← hq]; exact h)
          refine apq hA 5 rfl (by kernel_rfl) (by intro c a d v w h; cases d <;> exact h) (fun w => (q_extract rfl rfl)) rfl (listed' := #[true, true, true, true, true, true, false, false]) rfl fun a hA => ?_
          refine apq hA 6 rfl (by kernel_rfl) (by intro c a d v w h; cases d <;> exact h) (fun w => (q_assign rfl)) rfl (listed' := #[true, true, true, true, true, true, true, false]) rfl fun a hA => ?_
          refine apq hA 7 rfl (by kernel_rfl) (by intro c a d v w h; cases d <;> exact h) (fun w => (q_assign rfl)) rfl (listed' := #[true, true, true, true, true, true, true, true]) rfl fun a hA => ?_
          refine a_end (by kernel_rfl) ?_ _
          refine hK26 _ _ ?_
          clear hK26
          replace hA := hA.sub (E' := [(15, _), (7, _), (5, _), (4, _)]) ⟨rfl, rfl, rfl, rfl, trivial⟩
          refine wp_seq_k fun K27 hK27 => ?_
          refine wp_region_lit ?_
          refine sq hA (q_move rfl) rfl fun a hA => ?_
          refine sq hA (q_not rfl) rfl fun a hA => ?_
          refine wpList_nil ?_
          refine hK27 _ _ ?_
          clear hK27
          replace hA := hA.sub (E' := [(56, _), (7, _), (5, _), (4, _)]) ⟨rfl, rfl, rfl, rfl, trivial⟩
          refine cond_f hA rfl ?_
          refine wp_skip ?_
          refine hK25 _ _ ?_
          clear hK25
          replace hA := hA.sub (E' := [(7, _), (5, _), (4, _)]) ⟨rfl, rfl, rfl, trivial⟩
          refine wp_seq_k fun K28 hK28 => ?_
          refine wp_region_lit ?_
          refine sq hA (q_loadW hH 4 rfl Tryd.underlying44 rfl ti44 rfl (by first | omega | (simp; done) | (simp; omega) | (rw [List.length_map]; assumption) | assumption | rfl | (simp [*]; done) | (simp [*]; omega))) rfl fun a hA => ?_
          replace hH := hH.pick [5, 0, 1, 2, 3, 4, 6] (Hs' := [_, _, _, _, _, _, _]) rfl
          refine s0 hA (lo_storeAm hH ti44 rfl rfl (by first | (simp; done) | (rw [List.length_map]; assumption) | rfl | (simp [*]; done)) (by first | (simp; done) | (rw [List.length_map]; assumption) | rfl | (simp [*]; done)) (one_I _)) ?_
          clear hH; rintro _ w hH
          refine sq hA (q_assign rfl) rfl fun a hA => ?_
          refine wpList_nil ?_
          refine hK28 _ _ ?_
          clear hK28
          replace hA := hA.sub (E' := [(5, _), (4, _)]) ⟨rfl, rfl, trivial⟩
          refine wp_ret ?_
          refine post_ret hA (res_c1 rfl hA rfl rfl (resW hH 0 rfl Tryd.underlying44 rfl ti44 (by first | rfl | (simp; done)))) ?_
          replace hH := hH.pick [] (Hs' := []) rfl
          exact ⟨_, rfl, tupE hR, hH⟩
        · skip
          have hR : chkT s l = _ := chkT_m (key := s) hE0 (by have h := hs53; rw [hq6] at h ⊢; rw [← hq]; exact h)
          refine apq hA 5 rfl (by kernel_rfl) (by intro c a d v w h; cases d <;> exact h) (fun w => (q_extract rfl rfl)) rfl (listed' := #[true, true, true, true, true, true, false, false]) rfl fun a hA => ?_
          refine apq hA 6 rfl (by kernel_rfl) (by intro c a d v w h; cases d <;> exact h) (fun w => (q_assign rfl)) rfl (listed' := #[true, true, true, true, true, true, true, false]) rfl fun a hA => ?_
          refine apq hA 7 rfl (by kernel_rfl) (by intro c a d v w h; cases d <;> exact h) (fun w => (q_assign rfl)) rfl (listed' := #[true, true, true, true, true, true, true, true]) rfl fun a hA => ?_
          refine a_end (by kernel_rfl) ?_ _
          refine hK26 _ _ ?_
          clear hK26
          replace hA := hA.sub (E' := [(15, _), (7, _), (5, _), (4, _)]) ⟨rfl, rfl, rfl, rfl, trivial⟩
          refine wp_seq_k fun K29 hK29 => ?_
          refine wp_region_lit ?_
          refine sq hA (q_move rfl) rfl fun a hA => ?_
          refine sq hA (q_not rfl) rfl fun a hA => ?_
          refine wpList_nil ?_
          refine hK29 _ _ ?_
          clear hK29
          replace hA := hA.sub (E' := [(56, _), (7, _), (5, _), (4, _)]) ⟨rfl, rfl, rfl, rfl, trivial⟩
          refine cond_t hA rfl ?_
          refine wp_seq_k fun K30 hK30 => ?_
          refine wp_region_lit ?_
          refine sq hA (q_build (v := .agg ((List.replicate 6 (0 : Int)).map I).toArray) (vs := []) rfl (fun w => run_build w _ _ _ (by kernel_rfl))) rfl fun a hA => ?_
          replace hH := hH.pick [5, 0, 1, 2, 3, 4, 6] (Hs' := [_, _, _, _, _, _, _]) rfl
          refine s0 hA (lo_storeAm hH ti44 rfl rfl (by first | (simp; done) | (rw [List.length_map]; assumption) | rfl | (simp [*]; done)) (by first | (simp; done) | (rw [List.length_map]; assumption) | rfl | (simp [*]; done)) (one_I _)) ?_
          clear hH; rintro _ w hH
          refine sq hA (q_assign rfl) rfl fun a hA => ?_
          refine wpList_nil ?_
          refine hK30 _ _ ?_
          clear hK30
          replace hA := hA.sub (E' := [(5, _), (7, _), (4, _)]) ⟨rfl, rfl, rfl, trivial⟩
          refine wp_ret ?_
          refine then_ret ?_
          refine post_ret hA (res_c1 rfl hA rfl rfl (resW hH 0 rfl Tryd.underlying44 rfl ti44 (by first | rfl | (simp; done)))) ?_
          replace hH := hH.pick [] (Hs' := []) rfl
          exact ⟨_, rfl, tupE hR, hH⟩

set_option maxHeartbeats 1000000 in
theorem refcheckt_any {w0 : World} {lv : Nat} (hg : Gl (lv + 2) w0) (s : Bs) (hs : s.length = 32) (v : Value) (l : Bs) (hr : By [] w0 v l) (hl : l.length ≤ 1000000) :
    Calls Tryd.prog 25 #[(.agg ((s).map B8).toArray), v] w0 (Ret fun r w' => r = .tuple #[.agg (((chkT s l).1.map I).toArray), I (chkT s l).2] ∧ HS [] w0 w' []) := by
  have hH := HS.start w0
  refine start (n := 64) (E := [(0, _), (1, _)]) Tryd.func25 rfl rfl rfl (args_look rfl) ?_
  intro a hA
  refine wp_seq_k fun K1 hK1 => ?_
  refine wp_region_lit ?_
  refine sl hA (lo_boxA hH rfl) rfl ?_
  clear hH; rintro _ w ⟨b_t2, rfl, hH⟩ a hA
  refine sl hA (lo_allocA hH ti44) rfl ?_
  clear hH; rintro _ w ⟨b_t4, rfl, hH⟩ a hA
  replace hH : HS _ _ _ ([(b_t4, Obj.cells ((List.replicate 6 (0 : Int)).map I).toArray 44 (0, 0))] :: _) := hH
  refine sq hA (q_assign rfl) rfl fun a hA => ?_
  refine wpList_nil ?_
  refine hK1 _ _ ?_
  clear hK1
  replace hA := hA.sub (E' := [(5, _), (4, _), (2, _), (1, _)]) ⟨rfl, rfl, rfl, rfl, trivial⟩
  refine wp_seq_k fun K2 hK2 => ?_
  refine wp_region_lit ?_
  refine sq hA (q_move rfl) rfl fun a hA => ?_
  refine sq hA (q_buildC (css := [[v]]) (z := [(.slice none 0 0), (I 0)]) (BT.mk (pl := [(0, 1), (1, 1)]) (it := Tryd.t77) (by kernel_rfl) Tryd.underlying77 (by kernel_rfl) (by kernel_rfl)) rfl ⟨cells_one (Rd.one hr), ⟨_, rfl, by first | rfl | (simp [Value.cells]; done) | (simp [Value.cells, *]; done), by decide⟩, trivial⟩) rfl fun a hA => ?_
  refine sl hA (lo_boxA hH rfl) rfl ?_
  clear hH; rintro _ w ⟨b_t13, rfl, hH⟩ a hA
  refine sq hA (q_assign rfl) rfl fun a hA => ?_
  refine wpList_nil ?_
  refine hK2 _ _ ?_
  clear hK2
  replace hA := hA.sub (E' := [(6, _), (5, _), (4, _), (2, _), (1, _)]) ⟨rfl, rfl, rfl, rfl, rfl, trivial⟩
  refine wp_seq_k fun K3 hK3 => ?_
  refine wp_region_lit ?_
  refine sl hA (lo_allocA hH ti44) rfl ?_
  clear hH; rintro _ w ⟨b_t7, rfl, hH⟩ a hA
  replace hH : HS _ _ _ ([(b_t7, Obj.cells ((List.replicate 6 (0 : Int)).map I).toArray 44 (0, 0))] :: _) := hH
  replace hH : HS _ _ _ ([(b_t7, Obj.cells (((rT (l, 0) 0).1 ++ List.replicate (6 - 0) (0 : Int) : List Int).map I).toArray 44 (0, 0))] :: _) := hH
  refine wpList_nil ?_
  refine hK3 _ _ ?_
  clear hK3
  refine wp_seq_k fun K4 hK4 => ?_
  refine wp_region_lit ?_
  refine sq hA (q_move rfl) rfl fun a hA => ?_
  replace hH := hH.pick [1, 0, 2, 3] (Hs' := [_, _, _, _]) rfl
  refine sl hA (lo_call fn45 rfl (refrnum_q b_t13 _ (rT (l, 0) 0).2 (HS.rdM (Ns1 := [_]) hH hr) (Nat.le_trans (rT_rest (l, 0) 0) (by show l.length ≤ _; omega)) 1099511627776#64 tM (by decide) (HS.handed (Ns1 := [_]) hH))) rfl ?_
  rintro _ w ⟨w_t15, rfl, hT_t15, hC⟩ a hA
  replace hH := HS.call (Ns1 := [_]) hH hC
  clear hC
  have hle_t15 := rNum_le tM (rT (l, 0) 0).2
  rw [show (rNum tM (rT (l, 0) 0).2).2 = (rT (l, 0) 1).2 from rfl] at hH hT_t15
  refine sq hA (q_cv64_I Tryd.underlying61 Tryd.underlying3 rfl (by exact Nat.le_trans hle_t15 (by decide))) rfl fun a hA => ?_
  refine sq hA (q_fld 0 Tryd.underlying44 rfl rfl ti3 rfl) rfl fun a hA => ?_
  replace hH := hH.pick [1, 0, 2, 3] (Hs' := [_, _, _, _]) rfl
  refine s0 hA (lo_store1m (f := I) hH ti3 rfl rfl (by simp) rfl) ?_
  clear hH; rintro _ w hH
  rw [rT_set (l, 0) (i := 0) (by decide)] at hH
  refine wpList_nil ?_
  refine hK4 _ _ ?_
  clear hK4
  replace hA := hA.sub (E' := [(7, _), (6, _), (5, _), (4, _), (2, _), (1, _)]) ⟨rfl, rfl, rfl, rfl, rfl, rfl, trivial⟩
  refine wp_seq_k fun K5 hK5 => ?_
  refine wp_region_lit ?_
  refine sq hA (q_move rfl) rfl fun a hA => ?_
  replace hH := hH.pick [1, 0, 2, 3] (Hs' := [_, _, _, _]) rfl
  refine sl hA (lo_call fn45 rfl (refrnum_q b_t13 _ (rT (l, 0) 1).2 (HS.rdM (Ns1 := [_]) hH (hT_t15 _ _ hr)) (Nat.le_trans (rT_rest (l, 0) 1) (by show l.length ≤ _; omega)) 1099511627776#64 tM (by decide) (HS.handed (Ns1 := [_]) hH))) rfl ?_
  rintro _ w ⟨w_t19, rfl, hT_t19, hC⟩ a hA
  replace hH := HS.call (Ns1 := [_]) hH hC
  clear hC
  have hle_t19 := rNum_le tM (rT (l, 0) 1).2
  rw [show (rNum tM (rT (l, 0) 1).2).2 = (rT (l, 0) 2).2 from rfl] at hH hT_t19
  refine sq hA (q_cv64_I Tryd.underlying61 Tryd.underlying3 rfl (by exact Nat.le_trans hle_t19 (by decide))) rfl fun a hA => ?_
  refine sq hA (q_fld 1 Tryd.underlying44 rfl rfl ti3 rfl) rfl fun a hA => ?_
  replace hH := hH.pick [1, 0, 2, 3] (Hs' := [_, _, _, _]) rfl
  refine s0 hA (lo_store1m (f := I) hH ti3 rfl rfl (by simp) rfl) ?_
  clear hH; rintro _ w hH
  rw [rT_set (l, 0) (i := 1) (by decide)] at hH
  refine wpList_nil ?_
  refine hK5 _ _ ?_
  clear hK5
  replace hA := hA.sub (E' := [(7, _), (6, _), (5, _), (4, _), (2, _), (1, _)]) ⟨rfl, rfl, rfl, rfl, rfl, rfl, trivial⟩
  refine wp_seq_k fun K6 hK6 => ?_
  refine wp_region_lit ?_
  refine sq hA (q_move rfl) rfl fun a hA => ?_
  replace hH := hH.pick [1, 0, 2, 3] (Hs' := [_, _, _, _]) rfl
  refine sl hA (lo_call fn45 rfl (refrnum_q b_t13 _ (rT (l, 0) 2).2 (HS.rdM (Ns1 := [_]) hH (hT_t19 _ _ (hT_t15 _ _ hr))) (Nat.le_trans (rT_rest (l, 0) 2) (by show l.length ≤ _; omega)) 1099511627776#64 tM (by decide) (HS.handed (Ns1 := [_]) hH))) rfl ?_
  rintro _ w ⟨w_t23, rfl, hT_t23, hC⟩ a hA
  replace hH := HS.call (Ns1 := [_]) hH hC
  clear hC
  have hle_t23 := rNum_le tM (rT (l, 0) 2).2
  rw [show (rNum tM (rT (l, 0) 2).2).2 = (rT (l, 0) 3).2 from rfl] at hH hT_t23
  refine sq hA (q_cv64_I Tryd.underlying61 Tryd.underlying3 rfl (by exact Nat.le_trans hle_t23 (by decide))) rfl fun a hA => ?_
  refine sq hA (q_fld 2 Tryd.underlying44 rfl rfl ti3 rfl) rfl fun a hA => ?_
  replace hH := hH.pick [1, 0, 2, 3] (Hs' := [_, _, _, _]) rfl
  refine s0 hA (lo_store1m (f := I) hH ti3 rfl rfl (by simp) rfl) ?_
  clear hH; rintro _ w hH
  rw [rT_set (l, 0) (i := 2) (by decide)] at hH
  refine wpList_nil ?_
  refine hK6 _ _ ?_
  clear hK6
  replace hA := hA.sub (E' := [(7, _), (6, _), (5, _), (4, _), (2, _), (1, _)]) ⟨rfl, rfl, rfl, rfl, rfl, rfl, trivial⟩
  refine wp_seq_k fun K7 hK7 => ?_
  refine wp_region_lit ?_
  refine sq hA (q_move rfl) rfl fun a hA => ?_
  replace hH := hH.pick [1, 0, 2, 3] (Hs' := [_, _, _, _]) rfl
  refine sl hA (lo_call fn45 rfl (refrnum_q b_t13 _ (rT (l, 0) 3).2 (HS.rdM (Ns1 := [_]) hH (hT_t23 _ _ (hT_t19 _ _ (hT_t15 _ _ hr)))) (Nat.le_trans (rT_rest (l, 0) 3) (by show l.length ≤ _; omega)) 1099511627776#64 tM (by decide) (HS.handed (Ns1 := [_]) hH))) rfl ?_
  rintro _ w ⟨w_t27, rfl, hT_t27, hC⟩ a hA
  replace hH := HS.call (Ns1 := [_]) hH hC
  clear hC
  have hle_t27 := rNum_le tM (rT (l, 0) 3).2
  rw [show (rNum tM (rT (l, 0) 3).2).2 = (rT (l, 0) 4).2 from rfl] at hH hT_t27
  refine sq hA (q_cv64_I Tryd.underlying61 Tryd.underlying3 rfl (by exact Nat.le_trans hle_t27 (by decide))) rfl fun a hA => ?_
  refine sq hA (q_fld 3 Tryd.underlying44 rfl rfl ti3 rfl) rfl fun a hA => ?_
  replace hH := hH.pick [1, 0, 2, 3] (Hs' := [_, _, _, _]) rfl
  refine s0 hA (lo_store1m (f := I) hH ti3 rfl rfl (by simp) rfl) ?_
  clear hH; rintro _ w hH
  rw [rT_set (l, 0) (i := 3) (by decide)] at hH
  refine wpList_nil ?_
  refine hK7 _ _ ?_
  clear hK7
  replace hA := hA.sub (E' := [(7, _), (6, _), (5, _), (4, _), (2, _), (1, _)]) ⟨rfl, rfl, rfl, rfl, rfl, rfl, trivial⟩
  refine wp_seq_k fun K8 hK8 => ?_
  refine wp_region_lit ?_
  refine sq hA (q_move rfl) rfl fun a hA => ?_
  replace hH := hH.pick [1, 0, 2, 3] (Hs' := [_, _, _, _]) rfl
  refine sl hA (lo_call fn45 rfl (refrnum_q b_t13 _ (rT (l, 0) 4).2 (HS.rdM (Ns1 := [_]) hH (hT_t27 _ _ (hT_t23 _ _ (hT_t19 _ _ (hT_t15 _ _ hr))))) (Nat.le_trans (rT_rest (l, 0) 4) (by show l.length ≤ _; omega)) 1099511627776#64 tM (by decide) (HS.handed (Ns1 := [_]) hH))) rfl ?_
  rintro _ w ⟨w_t31, rfl, hT_t31, hC⟩ a hA
  replace hH := HS.call (Ns1 := [_]) hH hC
  clear hC
  have hle_t31 := rNum_le tM (rT (l, 0) 4).2
  rw [show (rNum tM (rT (l, 0) 4).2).2 = (rT (l, 0) 5).2 from rfl] at hH hT_t31
  refine sq hA (q_cv64_I Tryd.underlying61 Tryd.underlying3 rfl (by exact Nat.le_trans hle_t31 (by decide))) rfl fun a hA => ?_
  refine sq hA (q_fld 4 Tryd.underlying44 rfl rfl ti3 rfl) rfl fun a hA => ?_
  replace hH := hH.pick [1, 0, 2, 3] (Hs' := [_, _, _, _]) rfl
  refine s0 hA (lo_store1m (f := I) hH ti3 rfl rfl (by simp) rfl) ?_
  clear hH; rintro _ w hH
  rw [rT_set (l, 0) (i := 4) (by decide)] at hH
  refine wpList_nil ?_
  refine hK8 _ _ ?_
  clear hK8
  replace hA := hA.sub (E' := [(7, _), (6, _), (5, _), (4, _), (2, _), (1, _)]) ⟨rfl, rfl, rfl, rfl, rfl, rfl, trivial⟩
  refine wp_seq_k fun K9 hK9 => ?_
  refine wp_region_lit ?_
  refine sq hA (q_move rfl) rfl fun a hA => ?_
  replace hH := hH.pick [1, 0, 2, 3] (Hs' := [_, _, _, _]) rfl
  refine sl hA (lo_call fn45 rfl (refrnum_q b_t13 _ (rT (l, 0) 5).2 (HS.rdM (Ns1 := [_]) hH (hT_t31 _ _ (hT_t27 _ _ (hT_t23 _ _ (hT_t19 _ _ (hT_t15 _ _ hr)))))) (Nat.le_trans (rT_rest (l, 0) 5) (by show l.length ≤ _; omega)) 1099511627776#64 tM (by decide) (HS.handed (Ns1 := [_]) hH))) rfl ?_
  rintro _ w ⟨w_t35, rfl, hT_t35, hC⟩ a hA
  replace hH := HS.call (Ns1 := [_]) hH hC
  clear hC
  have hle_t35 := rNum_le tM (rT (l, 0) 5).2
  rw [show (rNum tM (rT (l, 0) 5).2).2 = (rT (l, 0) 6).2 from rfl] at hH hT_t35
  refine sq hA (q_cv64_I Tryd.underlying61 Tryd.underlying3 rfl (by exact Nat.le_trans hle_t35 (by decide))) rfl fun a hA => ?_
  refine sq hA (q_fld 5 Tryd.underlying44 rfl rfl ti3 rfl) rfl fun a hA => ?_
  replace hH := hH.pick [1, 0, 2, 3] (Hs' := [_, _, _, _]) rfl
  refine s0 hA (lo_store1m (f := I) hH ti3 rfl rfl (by simp) rfl) ?_
  clear hH; rintro _ w hH
  rw [rT_set (l, 0) (i := 5) (by decide)] at hH
  refine wpList_nil ?_
  refine hK9 _ _ ?_
  clear hK9
  replace hA := hA.sub (E' := [(7, _), (6, _), (5, _), (4, _), (2, _), (1, _)]) ⟨rfl, rfl, rfl, rfl, rfl, rfl, trivial⟩
  refine wp_seq_k fun K10 hK10 => ?_
  refine wp_region_lit ?_
  refine sq hA (q_move rfl) rfl fun a hA => ?_
  refine sq hA (q_len Tryd.underlying22 rfl (Rd.shp hr)) rfl fun a hA => ?_
  have hrl : (rT (l, 0) 6).2.1.length ≤ l.length := rT_rest (l, 0) 6
  refine sq hA (q_move rfl) rfl fun a hA => ?_
  refine sq hA (q_nilCheck rfl) rfl fun a hA => ?_
  refine sq hA (q_fld 0 Tryd.underlying77 rfl rfl ti22 rfl) rfl fun a hA => ?_
  refine sq hA (q_loadB hH 1 rfl (List.mem_singleton.2 rfl) Tryd.underlying22 rfl rfl rfl) rfl fun a hA => ?_
  refine sq hA (q_len Tryd.underlying22 rfl (Rd.shp (hT_t35 _ _ (hT_t31 _ _ (hT_t27 _ _ (hT_t23 _ _ (hT_t19 _ _ (hT_t15 _ _ hr)))))))) rfl fun a hA => ?_
  refine sq hA (q_subI rfl rfl (by omega)) rfl fun a hA => ?_
  rw [show ((l.length : Int) - ((rT (l, 0) 6).2.1.length : Nat)) = ((l.length - (rT (l, 0) 6).2.1.length : Nat) : Int) by omega] at hA
  refine sq hA (q_assign rfl) rfl fun a hA => ?_
  refine wpList_nil ?_
  refine hK10 _ _ ?_
  clear hK10
  replace hA := hA.sub (E' := [(8, _), (7, _), (6, _), (5, _), (4, _), (2, _), (1, _)]) ⟨rfl, rfl, rfl, rfl, rfl, rfl, rfl, trivial⟩
  refine wp_seq_k fun K11 hK11 => ?_
  refine wp_region_lit ?_
  refine sq hA (q_move rfl) rfl fun a hA => ?_
  replace hH := hH.pick [1, 0, 2, 3] (Hs' := [_, _, _, _]) rfl
  refine sl hA (lo_call fn46 rfl (refrdig_q b_t13 _ (rT (l, 0) 6).2 (HS.rdM (Ns1 := [_]) hH (hT_t35 _ _ (hT_t31 _ _ (hT_t27 _ _ (hT_t23 _ _ (hT_t19 _ _ (hT_t15 _ _ hr))))))) (Nat.le_trans (rT_rest (l, 0) 6) (by show l.length ≤ _; omega)) (HS.handed (Ns1 := [_]) hH))) rfl ?_
  rintro _ w ⟨w_t47, rfl, hT_t47, hC⟩ a hA
  replace hH := HS.call (Ns1 := [_]) hH hC
  clear hC
  obtain ⟨q, hq⟩ : ∃ q, q = rDig (rT (l, 0) 6).2 := ⟨_, rfl⟩
  have hdl := rDig_length (rT (l, 0) 6).2
  have hdr := rDig_rest (rT (l, 0) 6).2
  rw [← hq] at hA hH hT_t47 hdl hdr
  refine sl hA (lo_allocA hH ti42) rfl ?_
  clear hH; rintro _ w ⟨b_t9, rfl, hH⟩ a hA
  refine s0 hA (lo_storeAm hH ti42 rfl rfl (by first | omega | (simp; done) | (simp; omega) | (rw [List.length_map]; assumption) | assumption | rfl | (simp [*]; done) | (simp [*]; omega)) (by first | omega | (simp; done) | (simp; omega) | (rw [List.length_map]; assumption) | assumption | rfl | (simp [*]; done) | (simp [*]; omega)) (one_B8 _)) ?_
  clear hH; rintro _ w hH
  refine wpList_nil ?_
  refine hK11 _ _ ?_
  clear hK11
  replace hA := hA.sub (E' := [(9, _), (8, _), (7, _), (6, _), (5, _), (4, _), (2, _), (1, _)]) ⟨rfl, rfl, rfl, rfl, rfl, rfl, rfl, rfl, trivial⟩
  refine wp_seq_k fun K12 hK12 => ?_
  refine wp_seq_k fun K13 hK13 => ?_
  refine wp_region_lit ?_
  refine sq hA (q_move rfl) rfl fun a hA => ?_
  replace hH := hH.pick [1, 0, 2, 3, 4] (Hs' := [_, _, _, _, _]) rfl
  refine sl hA (lo_call fn47 rfl (refrend_q b_t13 _ q.2 (HS.rdM (Ns1 := [_]) hH (hT_t47 _ _ (hT_t35 _ _ (hT_t31 _ _ (hT_t27 _ _ (hT_t23 _ _ (hT_t19 _ _ (hT_t15 _ _ hr)))))))) (Nat.le_trans hdr (Nat.le_trans (rT_rest (l, 0) 6) (by show l.length ≤ _; omega))) (HS.handed (Ns1 := [_]) hH))) rfl ?_
  rintro _ w ⟨rfl, hC⟩ a hA
  replace hH := HS.call (Ns1 := [_]) hH hC
  clear hC
  refine sq hA (q_assign rfl) rfl fun a hA => ?_
  refine wpList_nil ?_
  refine hK13 _ _ ?_
  clear hK13
  replace hA := hA.sub (E' := [(10, _), (9, _), (8, _), (7, _), (5, _), (4, _), (2, _), (1, _)]) ⟨rfl, rfl, rfl, rfl, rfl, rfl, rfl, rfl, trivial⟩
  refine wp_seq_k fun K14 hK14 => ?_
  refine wp_region_lit ?_
  refine sq hA (q_move rfl) rfl fun a hA => ?_
  refine sq hA (q_neqI (n := 0) rfl rfl) rfl fun a hA => ?_
  refine wpList_nil ?_
  refine hK14 _ _ ?_
  clear hK14
  replace hA := hA.sub (E' := [(51, _), (10, _), (9, _), (8, _), (7, _), (5, _), (4, _), (2, _), (1, _)]) ⟨rfl, rfl, rfl, rfl, rfl, rfl, rfl, rfl, rfl, trivial⟩
  refine cond_d hA rfl (fun hc51 => ?_) (fun hc51 => ?_)
  · skip
    have hR : chkT s l = _ := chkT_e (key := s) (by rw [← hq]; omega)
    rw [← hq] at hR
    refine wp_seq_k fun K15 hK15 => ?_
    refine wp_region_lit ?_
    refine sq hA (q_build (v := .agg ((List.replicate 6 (0 : Int)).map I).toArray) (vs := []) rfl (fun w => run_build w _ _ _ (by kernel_rfl))) rfl fun a hA => ?_
    refine sq hA (q_move rfl) rfl fun a hA => ?_
    replace hH := hH.pick [3, 0, 1, 2, 4] (Hs' := [_, _, _, _, _]) rfl
    refine s0 hA (lo_storeAm hH ti44 rfl rfl (by first | (simp; done) | (rw [List.length_map]; assumption) | rfl | (simp [*]; done)) (by first | (simp; done) | (rw [List.length_map]; assumption) | rfl | (simp [*]; done)) (one_I _)) ?_
    clear hH; rintro _ w hH
    refine sq hA (q_assign rfl) rfl fun a hA => ?_
    refine wpList_nil ?_
    refine hK15 _ _ ?_
    clear hK15
    replace hA := hA.sub (E' := [(5, _), (9, _), (8, _), (7, _), (4, _), (2, _), (1, _)]) ⟨rfl, rfl, rfl, rfl, rfl, rfl, rfl, trivial⟩
    refine wp_ret ?_
    refine then_ret ?_
    refine post_ret hA (res_c1 rfl hA rfl rfl (resW hH 0 rfl Tryd.underlying44 rfl ti44 (by first | rfl | (simp; done)))) ?_
    replace hH := hH.pick [] (Hs' := []) rfl
    exact ⟨_, rfl, tupE hR, hH⟩
  · skip
    have hE0 : ¬ (rEnd (rDig (rT (l, 0) 6).2).2).1 ≠ 0 := by rw [← hq]; omega
    refine wp_skip ?_
    refine hK12 _ _ ?_
    clear hK12
    replace hA := hA.sub (E' := [(9, _), (8, _), (7, _), (5, _), (4, _), (2, _), (1, _)]) ⟨rfl, rfl, rfl, rfl, rfl, rfl, rfl, trivial⟩
    refine wp_seq_k fun K16 hK16 => ?_
    refine wp_seq_k fun K17 hK17 => ?_
    refine any_go mixed (fun _ => true) hH ?_
    clear hH; intro w hH
    have hS := hH
    change wpK _ _ _ _ _ _ 8 #[false, false, false, false, false, false, false, false] _ _
    refine aq hA 0 rfl (by kernel_rfl) (by intro c a d v w h; cases d <;> exact h) hS (fun w hH => (q_loadW hH 1 rfl Tryd.underlying42 rfl ti42 rfl (by first | omega | (simp; done) | (simp; omega) | (rw [List.length_map]; assumption) | assumption | rfl | (simp [*]; done) | (simp [*]; omega)))) rfl (listed' := #[true, false, false, false, false, false, false, false]) rfl fun a hA => ?_
    refine aq hA 1 rfl (by kernel_rfl) (by intro c a d v w h; cases d <;> exact h) hS (fun w hH => (q_loadW hH 4 rfl Tryd.underlying42 rfl ti42 rfl (by first | omega | (simp; done) | (simp; omega) | (rw [List.length_map]; assumption) | assumption | rfl | (simp [*]; done) | (simp [*]; omega)))) rfl (listed' := #[true, true, false, false, false, false, false, false]) rfl fun a hA => ?_
    refine apq hA 3 rfl (by kernel_rfl) (by intro c a d v w h; cases d <;> exact h) (fun w => (q_move rfl)) rfl (listed' := #[true, true, false, true, false, false, false, false]) rfl fun a hA => ?_
    refine apq hA 4 rfl (by kernel_rfl) (by intro c a d v w h; cases d <;> exact h) (fun w => (q_move rfl)) rfl (listed' := #[true, true, false, true, true, false, false, false]) rfl fun a hA => ?_
    obtain ⟨v_t59, hv_t59, hP_t59⟩ := By.piece0 (Rd.shp hr) (l.length - (rT (l, 0) 6).2.1.length) (by omega) rfl
    refine apq hA 5 rfl (by kernel_rfl) (by intro c a d v w h; cases d <;> exact h) (fun w => (q_slice Tryd.underlying22 ti5 rfl (0) (l.length - (rT (l, 0) 6).2.1.length) hv_t59 (Rd.shp hr) rfl rfl (rfl) (rfl) (by omega) (by omega))) rfl (listed' := #[true, true, false, true, true, true, false, false]) rfl fun a hA => ?_
    refine al hA 2 rfl (by kernel_rfl) (lo_call fn33 rfl (refdigest_any _ (by first | assumption | (rw [List.length_map]; assumption) | rfl | exact sha_length _ | (simp; done) | (simp [*]; done) | omega))) rfl (listed' := #[true, true, true, true, true, true, false, false]) rfl ?_
    rintro _ w ⟨v_t56, N_t56, rfl, hO_t56, hC⟩
    replace hH := HS.call0 hH hC
    clear hC
    have hS' := hH.pick [1, 2, 3, 4, 5] (Hs' := [_, _, _, _, _]) rfl
    replace hS := hS'; clear hS'
    refine ⟨fun _ _ => hS, ?_⟩
    intro a hA
    refine al hA 6 rfl (by kernel_rfl) (lo_call fn48 rfl (refmac_any (hg.mono0 hH) _ _ _ _ (Own.rd0 hO_t56 hH 0 rfl) (hH.rd (hP_t59 _ _ hr)) (by first | omega | (simp; done) | (simp; omega)) (by first | omega | (simp; done) | (simp; omega)))) rfl (listed' := #[true, true, true, true, true, true, true, false]) rfl ?_
    rintro _ w ⟨rfl, hC⟩
    replace hH := HS.call0 hH hC
    clear hC
    have hS' := hH.pick [1, 2, 3, 4, 5] (Hs' := [_, _, _, _, _]) rfl
    replace hS := hS'; clear hS'
    refine ⟨fun _ _ => hS, ?_⟩
    intro a hA
    refine apq hA 7 rfl (by kernel_rfl) (by intro c a d v w h; cases d <;> exact h) (fun w => (q_neqA8 eqa42 rfl rfl rfl rfl (by first | assumption | (rw [List.length_map]; assumption) | rfl | exact sha_length _ | (simp; done) | (simp [*]; done) | omega) (by first | assumption | (rw [List.length_map]; assumption) | rfl | exact sha_length _ | (simp; done) | (simp [*]; done) | omega))) rfl (listed' := #[true, true, true, true, true, true, true, true]) rfl fun a hA => ?_
    refine a_end (by kernel_rfl) ?_ _
    refine hK17 _ _ ?_
    clear hK17
    replace hA := hA.sub (E' := [(61, _), (7, _), (5, _), (4, _)]) ⟨rfl, rfl, rfl, rfl, trivial⟩
    refine cond_d hA rfl (fun hc61 => ?_) (fun hc61 => ?_)
    · skip
      have hR : chkT s l = _ := chkT_m (key := s) hE0 (by rw [← hq]; exact fun h => hc61 h.symm)
      refine wp_seq_k fun K18 hK18 => ?_
      refine wp_region_lit ?_
      refine sq hA (q_build (v := .agg ((List.replicate 6 (0 : Int)).map I).toArray) (vs := []) rfl (fun w => run_build w _ _ _ (by kernel_rfl))) rfl fun a hA => ?_
      replace hH := hH.pick [4, 0, 1, 2, 3, 5] (Hs' := [_, _, _, _, _, _]) rfl
      refine s0 hA (lo_storeAm hH ti44 rfl rfl (by first | (simp; done) | (rw [List.length_map]; assumption) | rfl | (simp [*]; done)) (by first | (simp; done) | (rw [List.length_map]; assumption) | rfl | (simp [*]; done)) (one_I _)) ?_
      clear hH; rintro _ w hH
      refine sq hA (q_assign rfl) rfl fun a hA => ?_
      refine wpList_nil ?_
      refine hK18 _ _ ?_
      clear hK18
      replace hA := hA.sub (E' := [(5, _), (7, _), (4, _)]) ⟨rfl, rfl, rfl, trivial⟩
      refine wp_ret ?_
      refine then_ret ?_
      refine post_ret hA (res_c1 rfl hA rfl rfl (resW hH 0 rfl Tryd.underlying44 rfl ti44 (by first | rfl | (simp; done)))) ?_
      replace hH := hH.pick [] (Hs' := []) rfl
      exact ⟨_, rfl, tupE hR, hH⟩
    · skip
      have hR : chkT s l = _ := chkT_o (key := s) hE0 (by rw [← hq]; exact (Classical.byContradiction hc61).symm)
      rw [show (rT (l, 0) 6).1 ++ List.replicate (6 - 6) (0 : Int) = (rT (l, 0) 6).1 by simp] at hH
      refine wp_skip ?_
      refine hK16 _ _ ?_
      clear hK16
      replace hA := hA.sub (E' := [(7, _), (5, _), (4, _)]) ⟨rfl, rfl, rfl, trivial⟩
      refine wp_seq_k fun K19 hK19 => ?_
      refine wp_region_lit ?_
      refine sq hA (q_loadW hH 3 rfl Tryd.underlying44 rfl ti44 rfl (by first | omega | (simp; done) | (simp; omega) | (rw [List.length_map]; assumption) | assumption | rfl | (simp [*]; done) | (simp [*]; omega))) rfl fun a hA => ?_
      replace hH := hH.pick [4, 0, 1, 2, 3, 5] (Hs' := [_, _, _, _, _, _]) rfl
      refine s0 hA (lo_storeAm hH ti44 rfl rfl (by first | (simp; done) | (rw [List.length_map]; assumption) | rfl | (simp [*]; done)) (by first | (simp; done) | (rw [List.length_map]; assumption) | rfl | (simp [*]; done)) (one_I _)) ?_
      clear hH; rintro _ w hH
      refine sq hA (q_assign rfl) rfl fun a hA => ?_
      refine wpList_nil ?_
      refine hK19 _ _ ?_
      clear hK19
      replace hA := hA.sub (E' := [(5, _), (4, _)]) ⟨rfl, rfl, trivial⟩
      refine wp_ret ?_
      refine post_ret hA (res_c1 rfl hA rfl rfl (resW hH 0 rfl Tryd.underlying44 rfl ti44 (by first | rfl | (simp; done)))) ?_
      replace hH := hH.pick [] (Hs' := []) rfl
      exact ⟨_, rfl, tupE hR, hH⟩

end Go.Proofs.YtokcbfklogjnfaaDoor
