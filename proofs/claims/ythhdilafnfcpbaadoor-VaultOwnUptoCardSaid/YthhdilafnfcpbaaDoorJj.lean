/- Layer 12 (vault): a vault is opened. -/
import Derived.Test.YthhdilafnfcpbaaDoorJi
namespace Go.Proofs.YthhdilafnfcpbaaDoor
open Go
set_option linter.unusedVariables false
set_option linter.unusedSimpArgs false
set_option maxRecDepth 100000

set_option maxHeartbeats 2000000 in
theorem open_any {w0 : World} {lv : Nat} (hg : Gl lv w0) (b_t : Nat) (T : Tp) (N : Hl) (hT : TM 5 76 66 b_t T N) (hB : Rdy T 4000) (hd : T.down = false) (hsz : ∀ i, (T.fs i).now.length ≤ 1000000) (hgM : NG lv (doms [N])) (hH : HS (doms [N]) w0 w0 [N]) :
    Calls Tryd.prog 13 #[(.pointer (some ⟨b_t, 0, none⟩))] w0 (Ret fun r w' => ∃ N', TM 5 76 66 b_t (mend T).2 N' ∧ ((mend T).1 = 0 → ∃ b_v Nv, r = .tuple #[.pointer (some ⟨b_v, 0, none⟩), I 0] ∧ VM 5 32 68 b_v b_t (opnT T) Nv ∧ HS (doms [N]) w0 w' [N', Nv]) ∧ ((mend T).1 ≠ 0 → r = .tuple #[.pointer none, I (mend T).1] ∧ HS (doms [N]) w0 w' [N'])) := by
 refine start (n := 86) (E := [(0, _)]) Tryd.func13 rfl rfl rfl (args_look rfl) ?_
 intro a hA
 refine wp_seq_k fun K1 hK1 => ?_
 refine wp_region_lit ?_
 refine asg hA fun a hA => ?_
 refine asg hA fun a hA => ?_
 refine wpList_nil ?_
 refine hK1 _ _ ?_
 clear hK1
 refine wp_seq_k fun K2 hK2 => ?_
 refine wp_region_lit ?_
 refine mv hA fun a hA => ?_
 refine sq hA (q_buildC (css := [_]) (z := [(.pointer none), (I 0), (.slice none 0 0), (.slice none 0 0), (.bool false)]) (BT.mk (pl := [(0, 1), (1, 1), (2, 1), (3, 1), (4, 1)]) (it := Tryd.t68) (by kernel_rfl) Tryd.underlying68 (by kernel_rfl) (by kernel_rfl)) rfl ⟨rfl, ⟨_, rfl, by first | rfl | (simp [Value.cells]; done) | (simp [Value.cells, *]; done), by decide⟩, trivial⟩) rfl fun a hA => ?_
 refine sl hA (lo_boxA hH rfl) rfl ?_
 clear hH; rintro _ w ⟨b_t18, rfl, hH⟩ a hA
 replace hH : HS _ _ _ ([(b_t18, Obj.cells (vC b_t 0 nilV nilV false).toArray 68 (0, 0))] :: _) := hH
 refine asg hA fun a hA => ?_
 refine wpList_nil ?_
 refine hK2 _ _ ?_
 clear hK2
 replace hA := hA.s4 4 3 2 0
 refine wp_seq_k fun K3 hK3 => ?_
 refine wp_seq_k fun K4 hK4 => ?_
 refine wp_region_lit ?_
 refine asg hA fun a hA => ?_
 refine wpList_nil ?_
 refine hK4 _ _ ?_
 clear hK4
 refine wp_block ?_
 replace hH := hH.nilFront
 replace hH := hH.pick [2, 1, 0] (Hs' := [_, _, _]) rfl
 refine wp_loop_ghost (fun gm a w => ∃ i : Nat, ∃ gg : Nat, ∃ tt : Bs, ∃ xx : Value, ∃ N_t : Hl, ∃ N_x : Hl, At 86 [(5, I i), (4, (.pointer (some ⟨b_t18, 0, none⟩))), (3, (I 0)), (0, (.pointer (some ⟨b_t, 0, none⟩)))] a ∧ HS (doms [N]) w0 w ([N_t, [(b_t18, Obj.cells (vC b_t gg xx nilV false).toArray 68 (0, 0))], N_x]) ∧ (1 ≤ i ∧ i ≤ 3) ∧ (TM 5 76 66 b_t T N_t) ∧ (Ow B8 5 xx tt N_x) ∧ (pkS (fun j => (T.fs j).now) i = (gg, tt)) ∧ gm = 3 - i) (3 - (1)) ⟨1, 0, [], nilV, N, [], hA.sub ⟨rfl, rfl, rfl, rfl, trivial⟩, hH, by omega, by exact hT, by exact Ow.nil B8 _, by rfl, rfl⟩ ?_
 clear hA hH
 rintro gm a w ⟨i, gg, tt, xx, N_t, N_x, hA, hH, hi, hT', hO_x, hpk, rfl⟩
 refine wp_seq_k fun K5 hK5 => ?_
 refine wp_seq_k fun K6 hK6 => ?_
 refine wp_region_lit ?_
 refine mv hA fun a hA => ?_
 refine sq hA (q_leqI (n := 2) rfl rfl) rfl fun a hA => ?_
 rcases (show i = 1 ∨ i = 2 ∨ i = 3 by omega) with rfl | rfl | rfl
 ·skip
  replace hA := hA.decT (by decide)
  refine wpList_nil ?_
  refine hK6 _ _ ?_
  clear hK6
  refine cond_t hA rfl ?_
  refine wp_skip ?_
  refine hK5 _ _ ?_
  clear hK5
  refine wp_seq_k fun K7 hK7 => ?_
  refine wp_block ?_
  refine wp_seq_k fun K8 hK8 => ?_
  refine wp_region_lit ?_
  refine mv hA fun a hA => ?_
  refine mv hA fun a hA => ?_
  refine sl hA (lo_call fn20 rfl (read_tm b_t T N_t hT' 1 (by decide) hB.fz hd (Nat.le_trans (hsz 1) (by decide)) (HS.handed (Ns1 := [_]) hH))) rfl ?_
  rintro _ w ⟨v_t26, N_t26, N_t, rfl, hO_t26, hT', hC⟩ a hA
  replace hH := HS.call (Ns1 := [_]) hH hC
  clear hC
  have hz26 := hsz 1
  refine mv hA fun a hA => ?_
  refine sq hA (q_extract rfl rfl) rfl fun a hA => ?_
  refine sq hA (q_extract rfl rfl) rfl fun a hA => ?_
  refine asg hA fun a hA => ?_
  refine asg hA fun a hA => ?_
  refine wpList_nil ?_
  refine hK8 _ _ ?_
  clear hK8
  refine wp_seq_k fun K9 hK9 => ?_
  refine wp_seq_k fun K10 hK10 => ?_
  refine wp_region_lit ?_
  refine mv hA fun a hA => ?_
  refine sq hA (q_neqI (n := 0) rfl rfl) rfl fun a hA => ?_
  refine wpList_nil ?_
  refine hK10 _ _ ?_
  clear hK10
  refine cond_d hA rfl (fun hnn => absurd hnn ((fun h => h rfl))) (fun _ => ?_)
  refine wp_skip ?_
  refine hK9 _ _ ?_
  clear hK9
  refine wp_seq_k fun K11 hK11 => ?_
  refine wp_region_lit ?_
  refine mv hA fun a hA => ?_
  refine sl hA (lo_call fn32 rfl (scan_any (hg.mono hH hgM) _ _ (Own.rd0 hO_t26 hH 1 rfl) (by omega))) rfl ?_
  rintro _ w ⟨v_t34, N_t34, N_dt34, rfl, hR_t34, hC⟩ a hA
  replace hH := HS.call0 hH hC
  clear hC
  obtain ⟨rs, hrs⟩ : ∃ z, z = (scanV (T.fs 1).now).1 := ⟨_, rfl⟩
  rw [← hrs] at hR_t34
  have hl2 : ∀ y ∈ rs, y.length ≤ 262144 := by rw [hrs]; exact (scN_one _ _).2
  refine mv hA fun a hA => ?_
  refine sq hA (q_extract rfl rfl) rfl fun a hA => ?_
  refine sq hA (q_extract rfl rfl) rfl fun a hA => ?_
  refine asg hA fun a hA => ?_
  refine asg hA fun a hA => ?_
  refine wpList_nil ?_
  refine hK11 _ _ ?_
  clear hK11
  replace hA := hA.sub (E' := [(8, _), (36, _), (35, _), (32, _), (34, _), (33, _), (30, _), (29, _), (7, _), (6, _), (28, _), (27, _), (23, _), (26, _), (25, _), (24, _), (20, _), (19, _), (5, _), (4, _), (3, _), (0, _)]) ⟨rfl, rfl, rfl, rfl, rfl, rfl, rfl, rfl, rfl, rfl, rfl, rfl, rfl, rfl, rfl, rfl, rfl, rfl, rfl, rfl, rfl, rfl, trivial⟩
  refine wp_seq_k fun K12 hK12 => ?_
  refine wp_seq_k fun K13 hK13 => ?_
  refine wp_region_lit ?_
  refine mv hA fun a hA => ?_
  refine sq hA (q_len Tryd.underlying33 rfl (RowsH.shp hR_t34)) rfl fun a hA => ?_
  refine sq hA (q_eqlI (n := 0) rfl rfl) rfl fun a hA => ?_
  refine wpList_nil ?_
  refine hK13 _ _ ?_
  clear hK13
  refine cond_d hA rfl (fun hc39 => ?_) (fun hc39 => ?_)
  ·skip
   have hz0 : slotP 1 (T.fs 1).now = (0, []) := slotP_none (scan_none (by rw [← hrs]; omega))
   have hpn := (pk_no (n := (fun j => (T.fs j).now)) (J := 1) (by omega) (.inl hz0)).trans hpk
   refine wp_exit ?_
   refine then_exit ?_
   refine exit_here ?_
   refine hK7 _ _ ?_
   clear hK7
   refine wp_region_lit ?_
   refine mv hA fun a hA => ?_
   refine sq hA (q_addI (n := 1) rfl rfl (by omega)) rfl fun a hA => ?_
   refine asg hA fun a hA => ?_
   refine wpList_nil ?_
   replace hH := hH.pick [2, 4, 5, 0, 1, 3] (Hs' := [_, _, _, _, _, _]) rfl
   replace hH := hH.pick [0, 1, 2] (Hs' := [_, _, _]) rfl
   exact ⟨_, by omega, 2, gg, tt, xx, N_t, N_x, hA.sub ⟨rfl, rfl, rfl, rfl, trivial⟩, hH, by omega, by exact hT', by first | exact hO_x | exact hO_t44, by first | exact hpn | exact pk_up (n := (fun j => (T.fs j).now)) (by omega) hpk hne hrs (by rw [recOk, hb]) (by omega) (by omega) | exact pk_same (n := (fun j => (T.fs j).now)) (by omega) hpk hne hrs (by intro hh; obtain ⟨h1, h2, h3⟩ := hh; first | omega | (rw [recOk, hb] at h1; cases h1)), rfl⟩
  ·skip
   have hne : ¬ (scanV (T.fs 1).now).1.length = 0 := by rw [← hrs]; omega
   have hy0 := hl2 _ (getD_mem (i := 0) (by omega))
   have hu40 := unp_le (rs.getD 0 [])
   refine wp_skip ?_
   refine hK12 _ _ ?_
   clear hK12
   refine wp_seq_k fun K14 hK14 => ?_
   refine wp_region_lit ?_
   refine mv hA fun a hA => ?_
   refine sq hA (q_idx1 (0) Tryd.underlying33 ti32 rfl rfl (rfl) (RowsH.shp hR_t34) (by first | omega | (simp; done) | (simp; omega) | (rw [List.length_map]; assumption) | assumption | rfl | (simp [*]; done) | (simp [*]; omega))) rfl fun a hA => ?_
   have hx_t43 := hR_t34
   obtain ⟨vs_t43, hvl_t43, hvo_t43, hvr_t43⟩ := hx_t43
   refine sq hA (q_loadR Tryd.underlying32 rfl rfl (Own.rd0 hvo_t43 hH 0 rfl) (by first | omega | (simp; done) | (simp; omega) | (rw [List.length_map]; assumption) | assumption | rfl | (simp [*]; done) | (simp [*]; omega)) (getD_some' vs_t43 nilV (by first | omega | (simp; done) | (simp; omega) | (rw [List.length_map]; assumption) | assumption | rfl | (simp [*]; done) | (simp [*]; omega)))) rfl fun a hA => ?_
   refine sl hA (lo_call fn33 rfl (unpack_any _ _ ((hvr_t43 (0) (by first | omega | (simp; done) | (simp; omega) | (rw [List.length_map]; assumption) | assumption | rfl | (simp [*]; done) | (simp [*]; omega))) [] _ (RO.of hH 1 rfl)) (by omega))) rfl ?_
   rintro _ w ⟨v_t44, N_t44, rfl, hO_t44, hC⟩ a hA
   replace hH := HS.call0 hH hC
   clear hC
   refine mv hA fun a hA => ?_
   refine sq hA (q_extract rfl rfl) rfl fun a hA => ?_
   refine sq hA (q_extract rfl rfl) rfl fun a hA => ?_
   refine sq hA (q_extract rfl rfl) rfl fun a hA => ?_
   rcases hb : (unp (rs.getD 0 [])).2.2 with _ | _
   ·skip
    rw [hb] at hA
    refine asg hA fun a hA => ?_
    refine asg hA fun a hA => ?_
    refine asg hA fun a hA => ?_
    refine wpList_nil ?_
    refine hK14 _ _ ?_
    clear hK14
    refine wp_seq_k fun K15 hK15 => ?_
    refine wp_region_lit ?_
    refine mv hA fun a hA => ?_
    refine mv hA fun a hA => ?_
    refine gs hA rfl rfl rfl rfl fun a hA => ?_
    refine gs hA rfl rfl rfl rfl fun a hA => ?_
    refine gs hA rfl rfl rfl rfl fun a hA => ?_
    refine gs hA rfl rfl rfl rfl fun a hA => ?_
    refine gs hA rfl rfl rfl rfl fun a hA => ?_
    refine gs hA rfl rfl rfl rfl fun a hA => ?_
    refine sq hA (q_pick_f rfl rfl) rfl fun a hA => ?_
    refine mv hA fun a hA => ?_
    refine gs hA rfl rfl rfl rfl fun a hA => ?_
    refine gs hA rfl rfl rfl rfl fun a hA => ?_
    refine gs hA rfl rfl rfl rfl fun a hA => ?_
    refine gs hA rfl rfl rfl rfl fun a hA => ?_
    refine sq hA (q_pick_f rfl rfl) rfl fun a hA => ?_
    refine wpList_nil ?_
    refine hK15 _ _ ?_
    clear hK15
    refine cond_f hA rfl ?_
    refine wp_skip ?_
    refine block_normal ?_
    refine hK7 _ _ ?_
    clear hK7
    refine wp_region_lit ?_
    refine mv hA fun a hA => ?_
    refine sq hA (q_addI (n := 1) rfl rfl (by omega)) rfl fun a hA => ?_
    refine asg hA fun a hA => ?_
    refine wpList_nil ?_
    replace hH := hH.pick [3, 5, 6, 0, 1, 2, 4] (Hs' := [_, _, _, _, _, _, _]) rfl
    replace hH := hH.pick [0, 1, 2] (Hs' := [_, _, _]) rfl
    exact ⟨_, by omega, 2, gg, tt, xx, N_t, N_x, hA.sub ⟨rfl, rfl, rfl, rfl, trivial⟩, hH, by omega, by exact hT', by first | exact hO_x | exact hO_t44, by first | exact hpn | exact pk_up (n := (fun j => (T.fs j).now)) (by omega) hpk hne hrs (by rw [recOk, hb]) (by omega) (by omega) | exact pk_same (n := (fun j => (T.fs j).now)) (by omega) hpk hne hrs (by intro hh; obtain ⟨h1, h2, h3⟩ := hh; first | omega | (rw [recOk, hb] at h1; cases h1)), rfl⟩
   ·skip
    rw [hb] at hA
    refine asg hA fun a hA => ?_
    refine asg hA fun a hA => ?_
    refine asg hA fun a hA => ?_
    refine wpList_nil ?_
    refine hK14 _ _ ?_
    clear hK14
    refine wp_seq_k fun K16 hK16 => ?_
    refine wp_region_lit ?_
    refine mv hA fun a hA => ?_
    refine mv hA fun a hA => ?_
    refine gq hA rfl rfl (q_move rfl) rfl fun a hA => ?_
    refine gq hA rfl rfl (q_move rfl) rfl fun a hA => ?_
    refine gq hA rfl rfl (q_nilCheck rfl) rfl fun a hA => ?_
    refine gq hA rfl rfl (q_fld 1 Tryd.underlying68 rfl rfl ti3 rfl) rfl fun a hA => ?_
    refine gq hA rfl rfl (q_loadB hH 5 rfl (List.mem_singleton.2 rfl) Tryd.underlying3 rfl rfl rfl) rfl fun a hA => ?_
    refine gq hA rfl rfl (q_gtrI rfl rfl) rfl fun a hA => ?_
    refine sq hA (q_pick_t rfl rfl) rfl fun a hA => ?_
    refine hA.spl (fun hs56 hA => ?_) (fun hs56 hA => ?_)
    ·skip
     refine mv hA fun a hA => ?_
     refine gq hA rfl rfl (q_move rfl) rfl fun a hA => ?_
     refine gl hA rfl rfl (lo_call fn34 rfl (slotOf_any _ (by first | omega | (simp; done) | (simp; omega)))) rfl ?_
     rintro _ w ⟨rfl, hC⟩ a hA
     replace hH := HS.call0 hH hC
     clear hC
     refine gq hA rfl rfl (q_move rfl) rfl fun a hA => ?_
     refine gq hA rfl rfl (q_eqlI rfl rfl) rfl fun a hA => ?_
     refine sq hA (q_pick_t rfl rfl) rfl fun a hA => ?_
     refine wpList_nil ?_
     refine hK16 _ _ ?_
     clear hK16
     refine cond_d hA rfl (fun hc62 => ?_) (fun hc62 => ?_)
     ·skip
      refine wp_region_lit ?_
      refine mv hA fun a hA => ?_
      refine mv hA fun a hA => ?_
      refine mv hA fun a hA => ?_
      refine mv hA fun a hA => ?_
      refine sq hA (q_nilCheck rfl) rfl fun a hA => ?_
      refine sq hA (q_fld 1 Tryd.underlying68 rfl rfl ti3 rfl) rfl fun a hA => ?_
      replace hH := hH.pick [5, 0, 1, 2, 3, 4, 6] (Hs' := [_, _, _, _, _, _, _]) rfl
      refine s0 hA (lo_store1 hH ti3 rfl rfl ((show 1 < 5 by decide)) rfl) ?_
      clear hH; rintro _ w hH
      rw [vC_gen] at hH
      refine sq hA (q_nilCheck rfl) rfl fun a hA => ?_
      refine sq hA (q_fld 2 Tryd.underlying68 rfl rfl ti32 rfl) rfl fun a hA => ?_
      refine s0 hA (lo_store1 hH ti32 rfl rfl ((show 2 < 5 by decide)) (Own.one hO_t44)) ?_
      clear hH; rintro _ w hH
      rw [vC_text] at hH
      replace hH := hH.pick [0, 1, 2, 3, 4, 5] (Hs' := [_, _, _, _, _, _]) rfl
      refine wpList_nil ?_
      refine block_normal ?_
      refine hK7 _ _ ?_
      clear hK7
      refine wp_region_lit ?_
      refine mv hA fun a hA => ?_
      refine sq hA (q_addI (n := 1) rfl rfl (by omega)) rfl fun a hA => ?_
      refine asg hA fun a hA => ?_
      refine wpList_nil ?_
      replace hH := hH.pick [4, 0, 1, 2, 3, 5] (Hs' := [_, _, _, _, _, _]) rfl
      replace hH := hH.pick [0, 1, 2] (Hs' := [_, _, _]) rfl
      exact ⟨_, by omega, 2, (unp (rs.getD 0 [])).1, (unp (rs.getD 0 [])).2.1, v_t44, N_t, N_t44, hA.sub ⟨rfl, rfl, rfl, rfl, trivial⟩, hH, by omega, by exact hT', by first | exact hO_x | exact hO_t44, by first | exact hpn | exact pk_up (n := (fun j => (T.fs j).now)) (by omega) hpk hne hrs (by rw [recOk, hb]) (by omega) (by omega) | exact pk_same (n := (fun j => (T.fs j).now)) (by omega) hpk hne hrs (by intro hh; obtain ⟨h1, h2, h3⟩ := hh; first | omega | (rw [recOk, hb] at h1; cases h1)), rfl⟩
     ·skip
      refine wp_skip ?_
      refine block_normal ?_
      refine hK7 _ _ ?_
      clear hK7
      refine wp_region_lit ?_
      refine mv hA fun a hA => ?_
      refine sq hA (q_addI (n := 1) rfl rfl (by omega)) rfl fun a hA => ?_
      refine asg hA fun a hA => ?_
      refine wpList_nil ?_
      replace hH := hH.pick [3, 5, 6, 0, 1, 2, 4] (Hs' := [_, _, _, _, _, _, _]) rfl
      replace hH := hH.pick [0, 1, 2] (Hs' := [_, _, _]) rfl
      exact ⟨_, by omega, 2, gg, tt, xx, N_t, N_x, hA.sub ⟨rfl, rfl, rfl, rfl, trivial⟩, hH, by omega, by exact hT', by first | exact hO_x | exact hO_t44, by first | exact hpn | exact pk_up (n := (fun j => (T.fs j).now)) (by omega) hpk hne hrs (by rw [recOk, hb]) (by omega) (by omega) | exact pk_same (n := (fun j => (T.fs j).now)) (by omega) hpk hne hrs (by intro hh; obtain ⟨h1, h2, h3⟩ := hh; first | omega | (rw [recOk, hb] at h1; cases h1)), rfl⟩
    ·skip
     refine mv hA fun a hA => ?_
     refine gs hA rfl rfl rfl rfl fun a hA => ?_
     refine gs hA rfl rfl rfl rfl fun a hA => ?_
     refine gs hA rfl rfl rfl rfl fun a hA => ?_
     refine gs hA rfl rfl rfl rfl fun a hA => ?_
     refine sq hA (q_pick_f rfl rfl) rfl fun a hA => ?_
     refine wpList_nil ?_
     refine hK16 _ _ ?_
     clear hK16
     refine cond_f hA rfl ?_
     refine wp_skip ?_
     refine block_normal ?_
     refine hK7 _ _ ?_
     clear hK7
     refine wp_region_lit ?_
     refine mv hA fun a hA => ?_
     refine sq hA (q_addI (n := 1) rfl rfl (by omega)) rfl fun a hA => ?_
     refine asg hA fun a hA => ?_
     refine wpList_nil ?_
     replace hH := hH.pick [3, 5, 6, 0, 1, 2, 4] (Hs' := [_, _, _, _, _, _, _]) rfl
     replace hH := hH.pick [0, 1, 2] (Hs' := [_, _, _]) rfl
     exact ⟨_, by omega, 2, gg, tt, xx, N_t, N_x, hA.sub ⟨rfl, rfl, rfl, rfl, trivial⟩, hH, by omega, by exact hT', by first | exact hO_x | exact hO_t44, by first | exact hpn | exact pk_up (n := (fun j => (T.fs j).now)) (by omega) hpk hne hrs (by rw [recOk, hb]) (by omega) (by omega) | exact pk_same (n := (fun j => (T.fs j).now)) (by omega) hpk hne hrs (by intro hh; obtain ⟨h1, h2, h3⟩ := hh; first | omega | (rw [recOk, hb] at h1; cases h1)), rfl⟩
 ·skip
  replace hA := hA.decT (by decide)
  refine wpList_nil ?_
  refine hK6 _ _ ?_
  clear hK6
  refine cond_t hA rfl ?_
  refine wp_skip ?_
  refine hK5 _ _ ?_
  clear hK5
  refine wp_seq_k fun K17 hK17 => ?_
  refine wp_block ?_
  refine wp_seq_k fun K18 hK18 => ?_
  refine wp_region_lit ?_
  refine mv hA fun a hA => ?_
  refine mv hA fun a hA => ?_
  refine sl hA (lo_call fn20 rfl (read_tm b_t T N_t hT' 2 (by decide) hB.fz hd (Nat.le_trans (hsz 2) (by decide)) (HS.handed (Ns1 := [_]) hH))) rfl ?_
  rintro _ w ⟨v_t26, N_t26, N_t, rfl, hO_t26, hT', hC⟩ a hA
  replace hH := HS.call (Ns1 := [_]) hH hC
  clear hC
  have hz26 := hsz 2
  refine mv hA fun a hA => ?_
  refine sq hA (q_extract rfl rfl) rfl fun a hA => ?_
  refine sq hA (q_extract rfl rfl) rfl fun a hA => ?_
  refine asg hA fun a hA => ?_
  refine asg hA fun a hA => ?_
  refine wpList_nil ?_
  refine hK18 _ _ ?_
  clear hK18
  refine wp_seq_k fun K19 hK19 => ?_
  refine wp_seq_k fun K20 hK20 => ?_
  refine wp_region_lit ?_
  refine mv hA fun a hA => ?_
  refine sq hA (q_neqI (n := 0) rfl rfl) rfl fun a hA => ?_
  refine wpList_nil ?_
  refine hK20 _ _ ?_
  clear hK20
  refine cond_d hA rfl (fun hnn => absurd hnn ((fun h => h rfl))) (fun _ => ?_)
  refine wp_skip ?_
  refine hK19 _ _ ?_
  clear hK19
  refine wp_seq_k fun K21 hK21 => ?_
  refine wp_region_lit ?_
  refine mv hA fun a hA => ?_
  refine sl hA (lo_call fn32 rfl (scan_any (hg.mono hH hgM) _ _ (Own.rd0 hO_t26 hH 1 rfl) (by omega))) rfl ?_
  rintro _ w ⟨v_t34, N_t34, N_dt34, rfl, hR_t34, hC⟩ a hA
  replace hH := HS.call0 hH hC
  clear hC
  obtain ⟨rs, hrs⟩ : ∃ z, z = (scanV (T.fs 2).now).1 := ⟨_, rfl⟩
  rw [← hrs] at hR_t34
  have hl2 : ∀ y ∈ rs, y.length ≤ 262144 := by rw [hrs]; exact (scN_one _ _).2
  refine mv hA fun a hA => ?_
  refine sq hA (q_extract rfl rfl) rfl fun a hA => ?_
  refine sq hA (q_extract rfl rfl) rfl fun a hA => ?_
  refine asg hA fun a hA => ?_
  refine asg hA fun a hA => ?_
  refine wpList_nil ?_
  refine hK21 _ _ ?_
  clear hK21
  replace hA := hA.sub (E' := [(8, _), (36, _), (35, _), (32, _), (34, _), (33, _), (30, _), (29, _), (7, _), (6, _), (28, _), (27, _), (23, _), (26, _), (25, _), (24, _), (20, _), (19, _), (5, _), (4, _), (3, _), (0, _)]) ⟨rfl, rfl, rfl, rfl, rfl, rfl, rfl, rfl, rfl, rfl, rfl, rfl, rfl, rfl, rfl, rfl, rfl, rfl, rfl, rfl, rfl, rfl, trivial⟩
  refine wp_seq_k fun K22 hK22 => ?_
  refine wp_seq_k fun K23 hK23 => ?_
  refine wp_region_lit ?_
  refine mv hA fun a hA => ?_
  refine sq hA (q_len Tryd.underlying33 rfl (RowsH.shp hR_t34)) rfl fun a hA => ?_
  refine sq hA (q_eqlI (n := 0) rfl rfl) rfl fun a hA => ?_
  refine wpList_nil ?_
  refine hK23 _ _ ?_
  clear hK23
  refine cond_d hA rfl (fun hc39 => ?_) (fun hc39 => ?_)
  ·skip
   have hz0 : slotP 2 (T.fs 2).now = (0, []) := slotP_none (scan_none (by rw [← hrs]; omega))
   have hpn := (pk_no (n := (fun j => (T.fs j).now)) (J := 2) (by omega) (.inl hz0)).trans hpk
   refine wp_exit ?_
   refine then_exit ?_
   refine exit_here ?_
   refine hK17 _ _ ?_
   clear hK17
   refine wp_region_lit ?_
   refine mv hA fun a hA => ?_
   refine sq hA (q_addI (n := 1) rfl rfl (by omega)) rfl fun a hA => ?_
   refine asg hA fun a hA => ?_
   refine wpList_nil ?_
   replace hH := hH.pick [2, 4, 5, 0, 1, 3] (Hs' := [_, _, _, _, _, _]) rfl
   replace hH := hH.pick [0, 1, 2] (Hs' := [_, _, _]) rfl
   exact ⟨_, by omega, 3, gg, tt, xx, N_t, N_x, hA.sub ⟨rfl, rfl, rfl, rfl, trivial⟩, hH, by omega, by exact hT', by first | exact hO_x | exact hO_t44, by first | exact hpn | exact pk_up (n := (fun j => (T.fs j).now)) (by omega) hpk hne hrs (by rw [recOk, hb]) (by omega) (by omega) | exact pk_same (n := (fun j => (T.fs j).now)) (by omega) hpk hne hrs (by intro hh; obtain ⟨h1, h2, h3⟩ := hh; first | omega | (rw [recOk, hb] at h1; cases h1)), rfl⟩
  ·skip
   have hne : ¬ (scanV (T.fs 2).now).1.length = 0 := by rw [← hrs]; omega
   have hy0 := hl2 _ (getD_mem (i := 0) (by omega))
   have hu40 := unp_le (rs.getD 0 [])
   refine wp_skip ?_
   refine hK22 _ _ ?_
   clear hK22
   refine wp_seq_k fun K24 hK24 => ?_
   refine wp_region_lit ?_
   refine mv hA fun a hA => ?_
   refine sq hA (q_idx1 (0) Tryd.underlying33 ti32 rfl rfl (rfl) (RowsH.shp hR_t34) (by first | omega | (simp; done) | (simp; omega) | (rw [List.length_map]; assumption) | assumption | rfl | (simp [*]; done) | (simp [*]; omega))) rfl fun a hA => ?_
   have hx_t43 := hR_t34
   obtain ⟨vs_t43, hvl_t43, hvo_t43, hvr_t43⟩ := hx_t43
   refine sq hA (q_loadR Tryd.underlying32 rfl rfl (Own.rd0 hvo_t43 hH 0 rfl) (by first | omega | (simp; done) | (simp; omega) | (rw [List.length_map]; assumption) | assumption | rfl | (simp [*]; done) | (simp [*]; omega)) (getD_some' vs_t43 nilV (by first | omega | (simp; done) | (simp; omega) | (rw [List.length_map]; assumption) | assumption | rfl | (simp [*]; done) | (simp [*]; omega)))) rfl fun a hA => ?_
   refine sl hA (lo_call fn33 rfl (unpack_any _ _ ((hvr_t43 (0) (by first | omega | (simp; done) | (simp; omega) | (rw [List.length_map]; assumption) | assumption | rfl | (simp [*]; done) | (simp [*]; omega))) [] _ (RO.of hH 1 rfl)) (by omega))) rfl ?_
   rintro _ w ⟨v_t44, N_t44, rfl, hO_t44, hC⟩ a hA
   replace hH := HS.call0 hH hC
   clear hC
   refine mv hA fun a hA => ?_
   refine sq hA (q_extract rfl rfl) rfl fun a hA => ?_
   refine sq hA (q_extract rfl rfl) rfl fun a hA => ?_
   refine sq hA (q_extract rfl rfl) rfl fun a hA => ?_
   rcases hb : (unp (rs.getD 0 [])).2.2 with _ | _
   ·skip
    rw [hb] at hA
    refine asg hA fun a hA => ?_
    refine asg hA fun a hA => ?_
    refine asg hA fun a hA => ?_
    refine wpList_nil ?_
    refine hK24 _ _ ?_
    clear hK24
    refine wp_seq_k fun K25 hK25 => ?_
    refine wp_region_lit ?_
    refine mv hA fun a hA => ?_
    refine mv hA fun a hA => ?_
    refine gs hA rfl rfl rfl rfl fun a hA => ?_
    refine gs hA rfl rfl rfl rfl fun a hA => ?_
    refine gs hA rfl rfl rfl rfl fun a hA => ?_
    refine gs hA rfl rfl rfl rfl fun a hA => ?_
    refine gs hA rfl rfl rfl rfl fun a hA => ?_
    refine gs hA rfl rfl rfl rfl fun a hA => ?_
    refine sq hA (q_pick_f rfl rfl) rfl fun a hA => ?_
    refine mv hA fun a hA => ?_
    refine gs hA rfl rfl rfl rfl fun a hA => ?_
    refine gs hA rfl rfl rfl rfl fun a hA => ?_
    refine gs hA rfl rfl rfl rfl fun a hA => ?_
    refine gs hA rfl rfl rfl rfl fun a hA => ?_
    refine sq hA (q_pick_f rfl rfl) rfl fun a hA => ?_
    refine wpList_nil ?_
    refine hK25 _ _ ?_
    clear hK25
    refine cond_f hA rfl ?_
    refine wp_skip ?_
    refine block_normal ?_
    refine hK17 _ _ ?_
    clear hK17
    refine wp_region_lit ?_
    refine mv hA fun a hA => ?_
    refine sq hA (q_addI (n := 1) rfl rfl (by omega)) rfl fun a hA => ?_
    refine asg hA fun a hA => ?_
    refine wpList_nil ?_
    replace hH := hH.pick [3, 5, 6, 0, 1, 2, 4] (Hs' := [_, _, _, _, _, _, _]) rfl
    replace hH := hH.pick [0, 1, 2] (Hs' := [_, _, _]) rfl
    exact ⟨_, by omega, 3, gg, tt, xx, N_t, N_x, hA.sub ⟨rfl, rfl, rfl, rfl, trivial⟩, hH, by omega, by exact hT', by first | exact hO_x | exact hO_t44, by first | exact hpn | exact pk_up (n := (fun j => (T.fs j).now)) (by omega) hpk hne hrs (by rw [recOk, hb]) (by omega) (by omega) | exact pk_same (n := (fun j => (T.fs j).now)) (by omega) hpk hne hrs (by intro hh; obtain ⟨h1, h2, h3⟩ := hh; first | omega | (rw [recOk, hb] at h1; cases h1)), rfl⟩
   ·skip
    rw [hb] at hA
    refine asg hA fun a hA => ?_
    refine asg hA fun a hA => ?_
    refine asg hA fun a hA => ?_
    refine wpList_nil ?_
    refine hK24 _ _ ?_
    clear hK24
    refine wp_seq_k fun K26 hK26 => ?_
    refine wp_region_lit ?_
    refine mv hA fun a hA => ?_
    refine mv hA fun a hA => ?_
    refine gq hA rfl rfl (q_move rfl) rfl fun a hA => ?_
    refine gq hA rfl rfl (q_move rfl) rfl fun a hA => ?_
    refine gq hA rfl rfl (q_nilCheck rfl) rfl fun a hA => ?_
    refine gq hA rfl rfl (q_fld 1 Tryd.underlying68 rfl rfl ti3 rfl) rfl fun a hA => ?_
    refine gq hA rfl rfl (q_loadB hH 5 rfl (List.mem_singleton.2 rfl) Tryd.underlying3 rfl rfl rfl) rfl fun a hA => ?_
    refine gq hA rfl rfl (q_gtrI rfl rfl) rfl fun a hA => ?_
    refine sq hA (q_pick_t rfl rfl) rfl fun a hA => ?_
    refine hA.spl (fun hs56 hA => ?_) (fun hs56 hA => ?_)
    ·skip
     refine mv hA fun a hA => ?_
     refine gq hA rfl rfl (q_move rfl) rfl fun a hA => ?_
     refine gl hA rfl rfl (lo_call fn34 rfl (slotOf_any _ (by first | omega | (simp; done) | (simp; omega)))) rfl ?_
     rintro _ w ⟨rfl, hC⟩ a hA
     replace hH := HS.call0 hH hC
     clear hC
     refine gq hA rfl rfl (q_move rfl) rfl fun a hA => ?_
     refine gq hA rfl rfl (q_eqlI rfl rfl) rfl fun a hA => ?_
     refine sq hA (q_pick_t rfl rfl) rfl fun a hA => ?_
     refine wpList_nil ?_
     refine hK26 _ _ ?_
     clear hK26
     refine cond_d hA rfl (fun hc62 => ?_) (fun hc62 => ?_)
     ·skip
      refine wp_region_lit ?_
      refine mv hA fun a hA => ?_
      refine mv hA fun a hA => ?_
      refine mv hA fun a hA => ?_
      refine mv hA fun a hA => ?_
      refine sq hA (q_nilCheck rfl) rfl fun a hA => ?_
      refine sq hA (q_fld 1 Tryd.underlying68 rfl rfl ti3 rfl) rfl fun a hA => ?_
      replace hH := hH.pick [5, 0, 1, 2, 3, 4, 6] (Hs' := [_, _, _, _, _, _, _]) rfl
      refine s0 hA (lo_store1 hH ti3 rfl rfl ((show 1 < 5 by decide)) rfl) ?_
      clear hH; rintro _ w hH
      rw [vC_gen] at hH
      refine sq hA (q_nilCheck rfl) rfl fun a hA => ?_
      refine sq hA (q_fld 2 Tryd.underlying68 rfl rfl ti32 rfl) rfl fun a hA => ?_
      refine s0 hA (lo_store1 hH ti32 rfl rfl ((show 2 < 5 by decide)) (Own.one hO_t44)) ?_
      clear hH; rintro _ w hH
      rw [vC_text] at hH
      replace hH := hH.pick [0, 1, 2, 3, 4, 5] (Hs' := [_, _, _, _, _, _]) rfl
      refine wpList_nil ?_
      refine block_normal ?_
      refine hK17 _ _ ?_
      clear hK17
      refine wp_region_lit ?_
      refine mv hA fun a hA => ?_
      refine sq hA (q_addI (n := 1) rfl rfl (by omega)) rfl fun a hA => ?_
      refine asg hA fun a hA => ?_
      refine wpList_nil ?_
      replace hH := hH.pick [4, 0, 1, 2, 3, 5] (Hs' := [_, _, _, _, _, _]) rfl
      replace hH := hH.pick [0, 1, 2] (Hs' := [_, _, _]) rfl
      exact ⟨_, by omega, 3, (unp (rs.getD 0 [])).1, (unp (rs.getD 0 [])).2.1, v_t44, N_t, N_t44, hA.sub ⟨rfl, rfl, rfl, rfl, trivial⟩, hH, by omega, by exact hT', by first | exact hO_x | exact hO_t44, by first | exact hpn | exact pk_up (n := (fun j => (T.fs j).now)) (by omega) hpk hne hrs (by rw [recOk, hb]) (by omega) (by omega) | exact pk_same (n := (fun j => (T.fs j).now)) (by omega) hpk hne hrs (by intro hh; obtain ⟨h1, h2, h3⟩ := hh; first | omega | (rw [recOk, hb] at h1; cases h1)), rfl⟩
     ·skip
      refine wp_skip ?_
      refine block_normal ?_
      refine hK17 _ _ ?_
      clear hK17
      refine wp_region_lit ?_
      refine mv hA fun a hA => ?_
      refine sq hA (q_addI (n := 1) rfl rfl (by omega)) rfl fun a hA => ?_
      refine asg hA fun a hA => ?_
      refine wpList_nil ?_
      replace hH := hH.pick [3, 5, 6, 0, 1, 2, 4] (Hs' := [_, _, _, _, _, _, _]) rfl
      replace hH := hH.pick [0, 1, 2] (Hs' := [_, _, _]) rfl
      exact ⟨_, by omega, 3, gg, tt, xx, N_t, N_x, hA.sub ⟨rfl, rfl, rfl, rfl, trivial⟩, hH, by omega, by exact hT', by first | exact hO_x | exact hO_t44, by first | exact hpn | exact pk_up (n := (fun j => (T.fs j).now)) (by omega) hpk hne hrs (by rw [recOk, hb]) (by omega) (by omega) | exact pk_same (n := (fun j => (T.fs j).now)) (by omega) hpk hne hrs (by intro hh; obtain ⟨h1, h2, h3⟩ := hh; first | omega | (rw [recOk, hb] at h1; cases h1)), rfl⟩
    ·skip
     refine mv hA fun a hA => ?_
     refine gs hA rfl rfl rfl rfl fun a hA => ?_
     refine gs hA rfl rfl rfl rfl fun a hA => ?_
     refine gs hA rfl rfl rfl rfl fun a hA => ?_
     refine gs hA rfl rfl rfl rfl fun a hA => ?_
     refine sq hA (q_pick_f rfl rfl) rfl fun a hA => ?_
     refine wpList_nil ?_
     refine hK26 _ _ ?_
     clear hK26
     refine cond_f hA rfl ?_
     refine wp_skip ?_
     refine block_normal ?_
     refine hK17 _ _ ?_
     clear hK17
     refine wp_region_lit ?_
     refine mv hA fun a hA => ?_
     refine sq hA (q_addI (n := 1) rfl rfl (by omega)) rfl fun a hA => ?_
     refine asg hA fun a hA => ?_
     refine wpList_nil ?_
     replace hH := hH.pick [3, 5, 6, 0, 1, 2, 4] (Hs' := [_, _, _, _, _, _, _]) rfl
     replace hH := hH.pick [0, 1, 2] (Hs' := [_, _, _]) rfl
     exact ⟨_, by omega, 3, gg, tt, xx, N_t, N_x, hA.sub ⟨rfl, rfl, rfl, rfl, trivial⟩, hH, by omega, by exact hT', by first | exact hO_x | exact hO_t44, by first | exact hpn | exact pk_up (n := (fun j => (T.fs j).now)) (by omega) hpk hne hrs (by rw [recOk, hb]) (by omega) (by omega) | exact pk_same (n := (fun j => (T.fs j).now)) (by omega) hpk hne hrs (by intro hh; obtain ⟨h1, h2, h3⟩ := hh; first | omega | (rw [recOk, hb] at h1; cases h1)), rfl⟩
 ·skip
  replace hA := hA.decF (by decide)
  refine wpList_nil ?_
  refine hK6 _ _ ?_
  clear hK6
  refine cond_f hA rfl ?_
  refine wp_exit ?_
  refine then_exit ?_
  refine then_exit ?_
  refine exit_here ?_
  refine hK3 _ _ ?_
  clear hK3
  replace hA := hA.s3 4 3 0
  refine wp_seq_k fun K27 hK27 => ?_
  refine wp_region_lit ?_
  refine mv hA fun a hA => ?_
  refine sl hA (lo_call fn20 rfl (read_tm b_t T N_t hT' 0 (by decide) hB.fz hd (Nat.le_trans (hsz 0) (by decide)) (HS.handed (Ns1 := [_]) hH))) rfl ?_
  rintro _ w ⟨v_t73, N_t73, N_t, rfl, hO_t73, hT', hC⟩ a hA
  replace hH := HS.call (Ns1 := [_]) hH hC
  clear hC
  have hz73 := hsz 0
  refine mv hA fun a hA => ?_
  refine sq hA (q_extract rfl rfl) rfl fun a hA => ?_
  refine sq hA (q_extract rfl rfl) rfl fun a hA => ?_
  refine asg hA fun a hA => ?_
  refine asg hA fun a hA => ?_
  refine wpList_nil ?_
  refine hK27 _ _ ?_
  clear hK27
  replace hA := hA.s4 14 13 4 3
  refine wp_seq_k fun K28 hK28 => ?_
  refine wp_seq_k fun K29 hK29 => ?_
  refine wp_region_lit ?_
  refine mv hA fun a hA => ?_
  refine sq hA (q_neqI (n := 0) rfl rfl) rfl fun a hA => ?_
  refine wpList_nil ?_
  refine hK29 _ _ ?_
  clear hK29
  replace hA := hA.s5 77 14 13 4 3
  refine cond_d hA rfl (fun hnn => absurd hnn ((fun h => h rfl))) (fun _ => ?_)
  refine wp_skip ?_
  refine hK28 _ _ ?_
  clear hK28
  replace hA := hA.s3 13 4 3
  refine wp_seq_k fun K30 hK30 => ?_
  refine wp_seq_k fun K31 hK31 => ?_
  refine wp_region_lit ?_
  refine mv hA fun a hA => ?_
  refine mv hA fun a hA => ?_
  replace hH := hH.pick [0, 2, 1, 3] (Hs' := [_, _, _, _]) rfl
  refine sl hA (lo_call fn35 rfl (replay_any (hg.mono hH hgM) b_t18 b_t gg xx _ _ T N_t hT' hB rfl (Gl.ngs (Ns1 := [_, _]) hg hgM hH) (Own.rdM hO_t73 (Ns1 := [_, _]) hH 0 rfl) (by omega) (HS.handed (Ns1 := [_, _]) hH))) rfl ?_
  rintro _ w ⟨N_t, rq, N_o, N_od, rfl, hT', hR_q, hC⟩ a hA
  replace hH := HS.call (Ns1 := [_, _]) hH hC
  clear hC
  refine asg hA fun a hA => ?_
  refine wpList_nil ?_
  refine hK31 _ _ ?_
  clear hK31
  replace hA := hA.s3 15 4 3
  refine wp_seq_k fun K32 hK32 => ?_
  refine wp_region_lit ?_
  refine mv hA fun a hA => ?_
  refine sq hA (q_neqI (n := 0) rfl rfl) rfl fun a hA => ?_
  refine wpList_nil ?_
  refine hK32 _ _ ?_
  clear hK32
  replace hA := hA.s4 83 15 4 3
  refine cond_d hA rfl (fun hc83 => ?_) (fun hc83 => ?_)
  ·skip
   have hE : ¬ (mend T).1 = 0 := by omega
   refine wp_seq_k fun K33 hK33 => ?_
   refine wp_region_lit ?_
   refine mv hA fun a hA => ?_
   refine asg hA fun a hA => ?_
   refine asg hA fun a hA => ?_
   refine wpList_nil ?_
   refine hK33 _ _ ?_
   clear hK33
   replace hA := hA.s3 3 2 4
   refine wp_ret ?_
   refine then_ret ?_
   refine post_ret hA (res_2 rfl hA rfl rfl) ?_
   replace hH := hH.pick [0] (Hs' := [_]) rfl
   exact ⟨_, rfl, N_t, hT', fun h => absurd h hE, fun _ => ⟨rfl, hH⟩⟩
  ·skip
   have hE : (mend T).1 = 0 := by omega
   refine wp_skip ?_
   refine hK30 _ _ ?_
   clear hK30
   replace hA := hA.s2 4 3
   refine wp_seq_k fun K34 hK34 => ?_
   refine wp_region_lit ?_
   refine mv hA fun a hA => ?_
   refine asg hA fun a hA => ?_
   refine asg hA fun a hA => ?_
   refine wpList_nil ?_
   refine hK34 _ _ ?_
   clear hK34
   replace hA := hA.s2 3 2
   refine wp_ret ?_
   refine post_ret hA (res_2 rfl hA rfl rfl) ?_
   rw [show decide ((mend T).1 = 100) = false by rw [hE]; rfl] at hH
   replace hH := hH.pick [2, 3, 0, 1, 4, 5] (Hs' := [_, _, _, _, _, _]) rfl
   replace hH := hH.join
   replace hH := hH.pick [4, 0, 1, 2, 3] (Hs' := [_, _, _, _, _]) rfl
   replace hH := hH.join
   replace hH := hH.pick [2, 0, 1, 3] (Hs' := [_, _, _, _]) rfl
   replace hH := hH.join
   replace hH := hH.pick [1, 0, 2] (Hs' := [_, _, _]) rfl
   replace hH := hH.pick [0, 1] (Hs' := [_, _]) rfl
   have hop := opnT_of hpk
   exact ⟨_, rfl, N_t, hT', fun _ => ⟨b_t18, _, rfl, by rw [hop]; exact ⟨xx, rq, N_x, N_o, N_od, rfl, hO_x, hR_q⟩, hH⟩, fun h => absurd hE h⟩

end Go.Proofs.YthhdilafnfcpbaaDoor
