/- Layer 11 (frame): the laws of chapter 11. -/
import Derived.Test.YtokcbfklogjnfaaDoorGb
namespace Go.Proofs.YtokcbfklogjnfaaDoor
open Go
set_option linter.unusedVariables false
set_option linter.unusedSimpArgs false
set_option maxRecDepth 100000

def rowsOf (gs : List Value) (ls : List Bs) : List Bs := (List.range gs.length).map fun i => ls.getD i []
theorem rowsOf_length (gs : List Value) (ls : List Bs) : (rowsOf gs ls).length = gs.length := by simp [rowsOf]
theorem rowsOf_rd {gs : List Value} {ls k : List Bs} {w : World} {v : Value} (hk : k = rowsOf gs ls) (hr : Rd [] w v gs.length 1 gs) (hb : ∀ i, i < gs.length → By [] w (gs.getD i (.slice none 0 0)) (ls.getD i [])) : RdR [] w v k := by
  subst hk
  refine ⟨gs, (rowsOf_length gs ls).symm, by rw [rowsOf_length]; exact hr, fun i hi => ?_⟩
  rw [rowsOf_length] at hi
  have e : (rowsOf gs ls).getD i [] = ls.getD i [] := by simp [rowsOf, List.getD, hi]
  rw [e]
  exact hb i hi
theorem wrap_g {w0 : World} {lv : Nat} (hg : Gl lv w0) (v : Value) (l : Bs) (hr : By [] w0 v l) (hl : l.length ≤ 1000000) {M : _} (hM : M = wrapV l) : Calls Tryd.prog 14 #[v] w0 (Ret fun r w' => ∃ v' N, r = .tuple #[v', I M.2] ∧ Ow B8 5 v' M.1 N ∧ HS [] w0 w' [N]) := by
  subst hM
  exact wrap_any hg v l hr hl
theorem refwrap_g {w0 : World} {lv : Nat} (hg : Gl (lv + 2) w0) (v : Value) (l : Bs) (hr : By [] w0 v l) (hl : l.length ≤ 1000000) {M : _} (hM : M = wrapV l) : Calls Tryd.prog 16 #[v] w0 (Ret fun r w' => ∃ v' N, r = .tuple #[v', I M.2] ∧ Ow B8 5 v' M.1 N ∧ HS [] w0 w' [N]) := by
  subst hM
  exact refwrap_any hg v l hr hl
theorem scan_g {w0 : World} {lv : Nat} (hg : Gl lv w0) (v : Value) (l : Bs) (hr : By [] w0 v l) (hl : l.length ≤ 1000000) {M : _} (hM : M = scanV l) : Calls Tryd.prog 18 #[v] w0 (Ret fun r w' => ∃ v' Nr Nd, r = .tuple #[v', I M.2] ∧ RowsH 22 v' M.1 Nr Nd ∧ HS [] w0 w' [Nr, Nd]) := by
  subst hM
  exact scan_any hg v l hr hl
theorem refscan_g {w0 : World} {lv : Nat} (hg : Gl (lv + 2) w0) (v : Value) (l : Bs) (hr : By [] w0 v l) (hl : l.length ≤ 1000000) {M : _} (hM : M = scanV l) : Calls Tryd.prog 19 #[v] w0 (Ret fun r w' => ∃ v' Nr Nd, r = .tuple #[v', I M.2] ∧ RowsH 22 v' M.1 Nr Nd ∧ HS [] w0 w' [Nr, Nd]) := by
  subst hM
  exact refscan_any hg v l hr hl
theorem awake11_any {w0 : World} {lv : Nat} (hg : Gl lv w0)  :
    Calls Tryd.prog 13 #[] w0 (Ret fun r w' => r = .bool true ∧ HS [] w0 w' []) := by
  have hH := HS.start w0
  refine start (n := 38) (E := []) Tryd.func13 rfl rfl rfl (args_look rfl) ?_
  intro a hA
  obtain ⟨M, hM⟩ : ∃ x, x = wrapV [97#8] := ⟨_, rfl⟩
  obtain ⟨K, hK⟩ : ∃ x, x = scanV M.1 := ⟨_, rfl⟩
  have hM1 : M = (wf [97#8], 0) := by rw [hM]; exact wrapV_ok (by decide)
  have hml : M.1.length = 11 := by rw [hM1]; simp only; rw [wf_length]; rfl
  have hm2 : M.2 = 0 := by rw [hM1]
  have hk : K = ([[97#8]], 11) := by rw [hK, hM1]; have e := scanV_frames (ls := [[97#8]]) (by intro r h; rw [List.mem_singleton.1 h]; decide); simp only [wfs, List.append_nil] at e; rw [e, wf_length]; rfl
  have hkl : K.1.length = 1 := by rw [hk]; rfl
  have hk2 : K.2 = 11 := by rw [hk]
  have hk0 : K.1.getD 0 [] = [97#8] := by rw [hk]; rfl
  have hk0l : (K.1.getD 0 []).length = 1 := by rw [hk0]; rfl
  refine wp_seq_k fun K1 hK1 => ?_
  refine wp_region_lit ?_
  refine sq hA (q_assign rfl) rfl fun a hA => ?_
  refine wpList_nil ?_
  refine hK1 _ _ ?_
  clear hK1
  refine wp_seq_k fun K2 hK2 => ?_
  refine wp_region_lit ?_
  refine sl hA (lo_bs (f := B8) (e := 5) ([97#8]) hH rfl rfl (fun w => by kernel_rfl)) rfl ?_
  clear hH; rintro v_t6 w ⟨N_t6, hO_t6, hH⟩ a hA
  refine sl hA (lo_call fn14 rfl (wrap_g (hg.mono0 hH) _ _ (Own.rd0 hO_t6 hH 0 rfl) (by first | omega | (simp; done) | (simp; omega)) (by assumption))) rfl ?_
  rintro _ w ⟨v_t7, N_t7, rfl, hO_t7, hC⟩ a hA
  replace hH := HS.call0 hH hC
  clear hC
  refine sq hA (q_move rfl) rfl fun a hA => ?_
  refine sq hA (q_extract rfl rfl) rfl fun a hA => ?_
  refine sq hA (q_extract rfl rfl) rfl fun a hA => ?_
  refine sq hA (q_assign rfl) rfl fun a hA => ?_
  refine sq hA (q_assign rfl) rfl fun a hA => ?_
  refine wpList_nil ?_
  refine hK2 _ _ ?_
  clear hK2
  replace hA := hA.sub (E' := [(2, _), (1, _), (0, _)]) ⟨rfl, rfl, rfl, trivial⟩
  refine wp_seq_k fun K3 hK3 => ?_
  refine wp_region_lit ?_
  refine sq hA (q_move rfl) rfl fun a hA => ?_
  refine sl hA (lo_call fn18 rfl (scan_g (hg.mono0 hH) _ _ (Own.rd0 hO_t7 hH 0 rfl) (by first | omega | (simp; done) | (simp; omega)) (by assumption))) rfl ?_
  rintro _ w ⟨v_t12, N_t12, N_dt12, rfl, hR_t12, hC⟩ a hA
  replace hH := HS.call0 hH hC
  clear hC
  refine sq hA (q_move rfl) rfl fun a hA => ?_
  refine sq hA (q_extract rfl rfl) rfl fun a hA => ?_
  refine sq hA (q_extract rfl rfl) rfl fun a hA => ?_
  refine sq hA (q_assign rfl) rfl fun a hA => ?_
  refine sq hA (q_assign rfl) rfl fun a hA => ?_
  refine wpList_nil ?_
  refine hK3 _ _ ?_
  clear hK3
  replace hA := hA.sub (E' := [(4, _), (3, _), (2, _), (1, _), (0, _)]) ⟨rfl, rfl, rfl, rfl, rfl, trivial⟩
  refine wp_seq_k fun K4 hK4 => ?_
  refine wp_region_lit ?_
  refine sq hA (q_move rfl) rfl fun a hA => ?_
  refine sq hA (q_eqlI (n := 0) rfl rfl) rfl fun a hA => ?_
  replace hA := hA.decT (by omega)
  refine sq hA (q_move rfl) rfl fun a hA => ?_
  refine gq hA rfl rfl (q_move rfl) rfl fun a hA => ?_
  refine gq hA rfl rfl (q_len Tryd.underlying22 rfl (Own.shp hO_t7)) rfl fun a hA => ?_
  refine gq hA rfl rfl (q_eqlI (n := 11) rfl rfl) rfl fun a hA => ?_
  refine sq hA (q_pick_t rfl rfl) rfl fun a hA => ?_
  replace hA := hA.decT (by omega)
  refine sq hA (q_move rfl) rfl fun a hA => ?_
  refine gq hA rfl rfl (q_move rfl) rfl fun a hA => ?_
  refine gq hA rfl rfl (q_eqlI (n := 11) rfl rfl) rfl fun a hA => ?_
  refine sq hA (q_pick_t rfl rfl) rfl fun a hA => ?_
  replace hA := hA.decT (by omega)
  refine sq hA (q_move rfl) rfl fun a hA => ?_
  refine gq hA rfl rfl (q_move rfl) rfl fun a hA => ?_
  refine gq hA rfl rfl (q_len Tryd.underlying32 rfl (RowsH.shp hR_t12)) rfl fun a hA => ?_
  refine gq hA rfl rfl (q_eqlI (n := 1) rfl rfl) rfl fun a hA => ?_
  refine sq hA (q_pick_t rfl rfl) rfl fun a hA => ?_
  replace hA := hA.decT (by omega)
  refine sq hA (q_move rfl) rfl fun a hA => ?_
  refine gq hA rfl rfl (q_move rfl) rfl fun a hA => ?_
  refine gq hA rfl rfl (q_idx1 (0) Tryd.underlying32 ti22 rfl rfl (rfl) (RowsH.shp hR_t12) (by first | omega | (simp; done) | (simp; omega) | (rw [List.length_map]; assumption) | assumption | rfl | (simp [*]; done) | (simp [*]; omega))) rfl fun a hA => ?_
  have hx_t34 := hR_t12
  obtain ⟨vs_t34, hvl_t34, hvo_t34, hvr_t34⟩ := hx_t34
  refine gq hA rfl rfl (q_loadR Tryd.underlying22 rfl rfl (Own.rd0 hvo_t34 hH 0 rfl) (by first | omega | (simp; done) | (simp; omega) | (rw [List.length_map]; assumption) | assumption | rfl | (simp [*]; done) | (simp [*]; omega)) (getD_some' vs_t34 nilV (by first | omega | (simp; done) | (simp; omega) | (rw [List.length_map]; assumption) | assumption | rfl | (simp [*]; done) | (simp [*]; omega)))) rfl fun a hA => ?_
  refine gl hA rfl rfl (lo_bs (f := B8) (e := 5) ([97#8]) hH rfl rfl (fun w => by kernel_rfl)) rfl ?_
  clear hH; rintro v_t35 w ⟨N_t35, hO_t35, hH⟩ a hA
  refine gl hA rfl rfl (lo_call fn17 rfl (same_any _ _ _ _ ((hvr_t34 (0) (by first | omega | (simp; done) | (simp; omega) | (rw [List.length_map]; assumption) | assumption | rfl | (simp [*]; done) | (simp [*]; omega))) [] _ (RO.of hH 2 rfl)) (Own.rd0 hO_t35 hH 0 rfl) (by first | omega | (simp; done) | (simp; omega)) (by first | omega | (simp; done) | (simp; omega)))) rfl ?_
  rintro _ w ⟨rfl, hC⟩ a hA
  replace hH := HS.call0 hH hC
  clear hC
  refine sq hA (q_pick_t rfl rfl) rfl fun a hA => ?_
  refine sq hA (q_assign rfl) rfl fun a hA => ?_
  refine wpList_nil ?_
  refine hK4 _ _ ?_
  clear hK4
  replace hA := hA.sub (E' := [(0, _)]) ⟨rfl, trivial⟩
  refine wp_ret ?_
  refine post_ret hA (res_1 rfl hA rfl) ?_
  replace hH := hH.pick [] (Hs' := []) rfl
  exact ⟨_, rfl, by rw [decide_eq_true hk0], hH⟩

theorem frameScans_any {w0 : World} (hg : Gl 2 w0) (v : Value) (l : Bs) (hr : By [] w0 v l) (hl : l.length ≤ 1048576) :
    Calls Tryd.prog 4 #[v] w0 (Ret fun r w' => r = .bool true ∧ HS [] w0 w' []) := by
  have hH := HS.start w0
  refine start (n := 33) (E := [(0, _)]) Tryd.func4 rfl rfl rfl (args_look rfl) ?_
  intro a hA
  obtain ⟨K, hK⟩ : ∃ x, x = scanV l := ⟨_, rfl⟩
  have hK' : K = scanV ([] ++ l) := hK
  have hc := scN_count l l.length
  have hkl : 9 * K.1.length ≤ K.2 := by rw [hK]; exact hc
  have hk2 : K.2 ≤ l.length := by rw [hK]; exact scN_le l _
  have hks : ∀ x ∈ K.1, x.length ≤ 4194304 := fun x hx => Nat.le_trans ((scN_one l l.length).2 x (by rw [hK] at hx; exact hx)) (by decide)
  refine wp_seq_k fun K1 hK1 => ?_
  refine wp_region_lit ?_
  refine sq hA (q_assign rfl) rfl fun a hA => ?_
  refine wpList_nil ?_
  refine hK1 _ _ ?_
  clear hK1
  refine wp_seq_k fun K2 hK2 => ?_
  refine wp_seq_k fun K3 hK3 => ?_
  refine wp_region_lit ?_
  refine sq hA (q_move rfl) rfl fun a hA => ?_
  refine sq hA (q_len Tryd.underlying22 rfl (Rd.shp hr)) rfl fun a hA => ?_
  refine sq hA (q_gtrI (n := 4000) rfl rfl) rfl fun a hA => ?_
  refine wpList_nil ?_
  refine hK3 _ _ ?_
  clear hK3
  replace hA := hA.sub (E' := [(9, _), (2, _), (0, _)]) ⟨rfl, rfl, rfl, trivial⟩
  refine cond_d hA rfl (fun hc9 => ?_) (fun hc9 => ?_)
  · skip
    refine wp_seq_k fun K4 hK4 => ?_
    refine wp_region_lit ?_
    refine sl hA (lo_call fn13 rfl (awake11_any (hg.mono0 hH))) rfl ?_
    rintro _ w ⟨rfl, hC⟩ a hA
    replace hH := HS.call0 hH hC
    clear hC
    refine sq hA (q_assign rfl) rfl fun a hA => ?_
    refine wpList_nil ?_
    refine hK4 _ _ ?_
    clear hK4
    replace hA := hA.sub (E' := [(2, _), (0, _)]) ⟨rfl, rfl, trivial⟩
    refine wp_ret ?_
    refine then_ret ?_
    refine post_ret hA (res_1 rfl hA rfl) ?_
    exact ⟨_, rfl, rfl, hH⟩
  · skip
    refine wp_skip ?_
    refine hK2 _ _ ?_
    clear hK2
    replace hA := hA.sub (E' := [(2, _), (0, _)]) ⟨rfl, rfl, trivial⟩
    refine wp_seq_k fun K5 hK5 => ?_
    refine wp_region_lit ?_
    refine sq hA (q_move rfl) rfl fun a hA => ?_
    refine sl hA (lo_call fn15 rfl (own11_any _ _ (hH.rd hr) (by first | omega | (simp; done) | (simp; omega)))) rfl ?_
    rintro _ w ⟨v_t13, N_t13, rfl, hO_t13, hC⟩ a hA
    replace hH := HS.call0 hH hC
    clear hC
    refine sl hA (lo_call fn18 rfl (scan_g (hg.mono0 hH) _ _ (Own.rd0 hO_t13 hH 0 rfl) (by first | omega | (simp; done) | (simp; omega)) (by assumption))) rfl ?_
    rintro _ w ⟨v_t14, N_t14, N_dt14, rfl, hR_t14, hC⟩ a hA
    replace hH := HS.call0 hH hC
    clear hC
    refine sq hA (q_move rfl) rfl fun a hA => ?_
    refine sq hA (q_extract rfl rfl) rfl fun a hA => ?_
    refine sq hA (q_extract rfl rfl) rfl fun a hA => ?_
    refine sq hA (q_assign rfl) rfl fun a hA => ?_
    refine sq hA (q_assign rfl) rfl fun a hA => ?_
    refine wpList_nil ?_
    refine hK5 _ _ ?_
    clear hK5
    replace hA := hA.sub (E' := [(4, _), (3, _), (2, _), (0, _)]) ⟨rfl, rfl, rfl, rfl, trivial⟩
    refine wp_seq_k fun K6 hK6 => ?_
    refine wp_region_lit ?_
    refine sq hA (q_move rfl) rfl fun a hA => ?_
    refine sl hA (lo_call fn19 rfl (refscan_g (hg.mono hH NG.nil) _ _ (hH.rd hr) (by first | omega | (simp; done) | (simp; omega)) (by assumption))) rfl ?_
    rintro _ w ⟨v_t19, N_t19, N_dt19, rfl, hR_t19, hC⟩ a hA
    replace hH := HS.call0 hH hC
    clear hC
    refine sq hA (q_move rfl) rfl fun a hA => ?_
    refine sq hA (q_extract rfl rfl) rfl fun a hA => ?_
    refine sq hA (q_extract rfl rfl) rfl fun a hA => ?_
    refine sq hA (q_assign rfl) rfl fun a hA => ?_
    refine sq hA (q_assign rfl) rfl fun a hA => ?_
    refine wpList_nil ?_
    refine hK6 _ _ ?_
    clear hK6
    replace hA := hA.sub (E' := [(6, _), (5, _), (4, _), (3, _), (2, _)]) ⟨rfl, rfl, rfl, rfl, rfl, trivial⟩
    refine wp_seq_k fun K7 hK7 => ?_
    refine wp_region_lit ?_
    refine sq hA (q_move rfl) rfl fun a hA => ?_
    refine sq hA (q_move rfl) rfl fun a hA => ?_
    refine sl hA (lo_call fn20 rfl (sameR_any _ _ _ _ (RowsH.rdR hR_t14 hH 2 3 rfl rfl) (RowsH.rdR hR_t19 hH 0 1 rfl rfl) (by first | omega | (simp; done) | (simp; omega)) (by first | omega | (simp; done) | (simp; omega)) (by assumption) (by assumption))) rfl ?_
    rintro _ w ⟨rfl, hC⟩ a hA
    replace hH := HS.call0 hH hC
    clear hC
    replace hA := hA.decT (by first | rfl | omega | assumption | (simp; done) | (simp [*]; done))
    refine sq hA (q_move rfl) rfl fun a hA => ?_
    refine gq hA rfl rfl (q_move rfl) rfl fun a hA => ?_
    refine gq hA rfl rfl (q_move rfl) rfl fun a hA => ?_
    refine gq hA rfl rfl (q_eqlI rfl rfl) rfl fun a hA => ?_
    refine sq hA (q_pick_t rfl rfl) rfl fun a hA => ?_
    replace hA := hA.decT (by first | rfl | omega | assumption | (simp; done) | (simp [*]; done))
    refine sq hA (q_move rfl) rfl fun a hA => ?_
    refine gl hA rfl rfl (lo_call fn13 rfl (awake11_any (hg.mono0 hH))) rfl ?_
    rintro _ w ⟨rfl, hC⟩ a hA
    replace hH := HS.call0 hH hC
    clear hC
    refine sq hA (q_pick_t rfl rfl) rfl fun a hA => ?_
    refine sq hA (q_assign rfl) rfl fun a hA => ?_
    refine wpList_nil ?_
    refine hK7 _ _ ?_
    clear hK7
    replace hA := hA.sub (E' := [(2, _)]) ⟨rfl, trivial⟩
    refine wp_ret ?_
    refine post_ret hA (res_1 rfl hA rfl) ?_
    replace hH := hH.pick [] (Hs' := []) rfl
    exact ⟨_, rfl, rfl, hH⟩

theorem frameWraps_any {w0 : World} (hg : Gl 2 w0) (v : Value) (l : Bs) (hr : By [] w0 v l) (hl : l.length ≤ 1048576) (n : Int) :
    Calls Tryd.prog 3 #[v, I n] w0 (Ret fun r w' => r = .bool true ∧ HS [] w0 w' []) := by
  have hH := HS.start w0
  refine start (n := 76) (E := [(0, _), (1, _)]) Tryd.func3 rfl rfl rfl (args_look rfl) ?_
  intro a hA
  obtain ⟨W, hW⟩ : ∃ x, x = wrapV l := ⟨_, rfl⟩
  have hW' : W = wrapV ([] ++ l) := hW
  have hwl : W.1.length ≤ 262144 + 17 := by rw [hW]; exact wrapV_len l
  refine wp_seq_k fun K1 hK1 => ?_
  refine wp_region_lit ?_
  refine sq hA (q_assign rfl) rfl fun a hA => ?_
  refine wpList_nil ?_
  refine hK1 _ _ ?_
  clear hK1
  refine wp_seq_k fun K2 hK2 => ?_
  refine wp_seq_k fun K3 hK3 => ?_
  refine wp_region_lit ?_
  refine sq hA (q_move rfl) rfl fun a hA => ?_
  refine sq hA (q_len Tryd.underlying22 rfl (Rd.shp hr)) rfl fun a hA => ?_
  refine sq hA (q_gtrI (n := 2000) rfl rfl) rfl fun a hA => ?_
  refine wpList_nil ?_
  refine hK3 _ _ ?_
  clear hK3
  replace hA := hA.sub (E' := [(13, _), (4, _), (0, _), (1, _)]) ⟨rfl, rfl, rfl, rfl, trivial⟩
  refine cond_d hA rfl (fun hc13 => ?_) (fun hc13 => ?_)
  · skip
    refine wp_seq_k fun K4 hK4 => ?_
    refine wp_region_lit ?_
    refine sl hA (lo_call fn13 rfl (awake11_any (hg.mono0 hH))) rfl ?_
    rintro _ w ⟨rfl, hC⟩ a hA
    replace hH := HS.call0 hH hC
    clear hC
    refine sq hA (q_assign rfl) rfl fun a hA => ?_
    refine wpList_nil ?_
    refine hK4 _ _ ?_
    clear hK4
    replace hA := hA.sub (E' := [(4, _), (0, _), (1, _)]) ⟨rfl, rfl, rfl, trivial⟩
    refine wp_ret ?_
    refine then_ret ?_
    refine post_ret hA (res_1 rfl hA rfl) ?_
    exact ⟨_, rfl, rfl, hH⟩
  · skip
    refine wp_skip ?_
    refine hK2 _ _ ?_
    clear hK2
    replace hA := hA.sub (E' := [(4, _), (0, _), (1, _)]) ⟨rfl, rfl, rfl, trivial⟩
    refine wp_seq_k fun K5 hK5 => ?_
    refine wp_region_lit ?_
    refine sq hA (q_move rfl) rfl fun a hA => ?_
    refine sl hA (lo_call fn15 rfl (own11_any _ _ (hH.rd hr) (by first | omega | (simp; done) | (simp; omega)))) rfl ?_
    rintro _ w ⟨v_t17, N_t17, rfl, hO_t17, hC⟩ a hA
    replace hH := HS.call0 hH hC
    clear hC
    refine sl hA (lo_call fn14 rfl (wrap_g (hg.mono0 hH) _ _ (Own.rd0 hO_t17 hH 0 rfl) (by first | omega | (simp; done) | (simp; omega)) (by assumption))) rfl ?_
    rintro _ w ⟨v_t18, N_t18, rfl, hO_t18, hC⟩ a hA
    replace hH := HS.call0 hH hC
    clear hC
    refine sq hA (q_move rfl) rfl fun a hA => ?_
    refine sq hA (q_extract rfl rfl) rfl fun a hA => ?_
    refine sq hA (q_extract rfl rfl) rfl fun a hA => ?_
    refine sq hA (q_assign rfl) rfl fun a hA => ?_
    refine sq hA (q_assign rfl) rfl fun a hA => ?_
    refine wpList_nil ?_
    refine hK5 _ _ ?_
    clear hK5
    replace hA := hA.sub (E' := [(6, _), (5, _), (4, _), (0, _), (1, _)]) ⟨rfl, rfl, rfl, rfl, rfl, trivial⟩
    refine wp_seq_k fun K6 hK6 => ?_
    refine wp_region_lit ?_
    refine sq hA (q_move rfl) rfl fun a hA => ?_
    refine sl hA (lo_call fn16 rfl (refwrap_g (hg.mono0 hH) _ _ (hH.rd hr) (by first | omega | (simp; done) | (simp; omega)) (by assumption))) rfl ?_
    rintro _ w ⟨v_t23, N_t23, rfl, hO_t23, hC⟩ a hA
    replace hH := HS.call0 hH hC
    clear hC
    refine sq hA (q_move rfl) rfl fun a hA => ?_
    refine sq hA (q_extract rfl rfl) rfl fun a hA => ?_
    refine sq hA (q_extract rfl rfl) rfl fun a hA => ?_
    refine sq hA (q_assign rfl) rfl fun a hA => ?_
    refine sq hA (q_assign rfl) rfl fun a hA => ?_
    refine wpList_nil ?_
    refine hK6 _ _ ?_
    clear hK6
    replace hA := hA.sub (E' := [(8, _), (7, _), (6, _), (5, _), (4, _), (1, _)]) ⟨rfl, rfl, rfl, rfl, rfl, rfl, trivial⟩
    refine wp_seq_k fun K7 hK7 => ?_
    refine wp_seq_k fun K8 hK8 => ?_
    refine wp_region_lit ?_
    refine sq hA (q_move rfl) rfl fun a hA => ?_
    refine sq hA (q_geqI (n := 0) rfl rfl) rfl fun a hA => ?_
    refine hA.spl (fun hs27 hA => ?_) (fun hs27 hA => ?_)
    · skip
      refine sq hA (q_move rfl) rfl fun a hA => ?_
      refine gq hA rfl rfl (q_move rfl) rfl fun a hA => ?_
      refine gq hA rfl rfl (q_lssI (n := 3) rfl rfl) rfl fun a hA => ?_
      refine sq hA (q_pick_t rfl rfl) rfl fun a hA => ?_
      refine wpList_nil ?_
      refine hK8 _ _ ?_
      clear hK8
      replace hA := hA.sub (E' := [(31, _), (8, _), (7, _), (6, _), (5, _), (4, _), (1, _)]) ⟨rfl, rfl, rfl, rfl, rfl, rfl, rfl, trivial⟩
      refine cond_d hA rfl (fun hc31 => ?_) (fun hc31 => ?_)
      · skip
        obtain ⟨m, hm⟩ : ∃ m : Nat, n = m := ⟨n.toNat, by omega⟩
        subst hm
        obtain ⟨L, hL⟩ : ∃ L, L = wrapV (List.replicate (262143 + m) 0#8) := ⟨_, rfl⟩
        have hL1 := wrapV_rep (m := m) (by omega)
        rw [← hL] at hL1
        obtain ⟨hL2, hL3⟩ := hL1
        refine wp_seq_k fun K9 hK9 => ?_
        refine wp_region_lit ?_
        refine sq hA (q_move rfl) rfl fun a hA => ?_
        refine sq hA (q_addI (m := 262143) rfl rfl (by omega)) rfl fun a hA => ?_
        refine sl hA (lo_make (n := 262143 + m) hH Tryd.underlying22 ti5 rfl rfl rfl (by omega) (by omega) (by omega)) rfl ?_
        clear hH; rintro v_t35 w ⟨N_t35, hO_t35, hH⟩ a hA
        replace hO_t35 : Ow B8 5 v_t35 (List.replicate (262143 + m) 0#8) N_t35 := by simpa [Ow, cells_B8, flat_replicate] using hO_t35
        refine sl hA (lo_call fn14 rfl (wrap_g (hg.mono0 hH) _ _ (Own.rd0 hO_t35 hH 0 rfl) (by first | omega | (simp; done) | (simp; omega)) (by assumption))) rfl ?_
        rintro _ w ⟨v_t36, N_t36, rfl, hO_t36, hC⟩ a hA
        replace hH := HS.call0 hH hC
        clear hC
        refine sq hA (q_move rfl) rfl fun a hA => ?_
        refine sq hA (q_extract rfl rfl) rfl fun a hA => ?_
        refine sq hA (q_extract rfl rfl) rfl fun a hA => ?_
        refine sq hA (q_assign rfl) rfl fun a hA => ?_
        refine sq hA (q_assign rfl) rfl fun a hA => ?_
        refine wpList_nil ?_
        refine hK9 _ _ ?_
        clear hK9
        replace hA := hA.sub (E' := [(10, _), (9, _), (8, _), (7, _), (6, _), (5, _), (4, _), (1, _)]) ⟨rfl, rfl, rfl, rfl, rfl, rfl, rfl, rfl, trivial⟩
        refine wp_seq_k fun K10 hK10 => ?_
        refine wp_region_lit ?_
        refine sq hA (q_move rfl) rfl fun a hA => ?_
        refine sq hA (q_eqlI (n := 42) rfl rfl) rfl fun a hA => ?_
        refine sq hA (q_move rfl) rfl fun a hA => ?_
        refine sq hA (q_eqlI (n := 2) rfl rfl) rfl fun a hA => ?_
        refine sq hA (q_neqB Tryd.underlying4 rfl rfl) rfl fun a hA => ?_
        replace hA := hA.decF (by exact fun h => h (decide_eq_decide.2 (by split at hL2 <;> omega)))
        refine sq hA (q_move rfl) rfl fun a hA => ?_
        refine gq hA rfl rfl (q_move rfl) rfl fun a hA => ?_
        refine gq hA rfl rfl (q_eqlI (n := 42) rfl rfl) rfl fun a hA => ?_
        refine hA.spl (fun hs46 hA => ?_) (fun hs46 hA => ?_)
        · skip
          refine gq hA rfl rfl (q_move rfl) rfl fun a hA => ?_
          refine gq hA rfl rfl (q_move rfl) rfl fun a hA => ?_
          refine gq hA rfl rfl (q_len Tryd.underlying22 rfl (Own.shp hO_t36)) rfl fun a hA => ?_
          refine gq hA rfl rfl (q_neqI (n := 0) rfl rfl) rfl fun a hA => ?_
          replace hA := hA.decF (by split at hL2 <;> split at hL3 <;> omega)
          refine gq hA rfl rfl (q_pick_t rfl rfl) rfl fun a hA => ?_
          refine sq hA (q_pick_f rfl rfl) rfl fun a hA => ?_
          refine sq hA (q_move rfl) rfl fun a hA => ?_
          refine gq hA rfl rfl (q_move rfl) rfl fun a hA => ?_
          refine gq hA rfl rfl (q_eqlI (n := 0) rfl rfl) rfl fun a hA => ?_
          refine hA.spl (fun hs55 hA => ?_) (fun hs55 hA => ?_)
          · skip
            refine gq hA rfl rfl (q_move rfl) rfl fun a hA => ?_
            refine gq hA rfl rfl (q_move rfl) rfl fun a hA => ?_
            refine gq hA rfl rfl (q_len Tryd.underlying22 rfl (Own.shp hO_t36)) rfl fun a hA => ?_
            refine gq hA rfl rfl (q_move rfl) rfl fun a hA => ?_
            refine gq hA rfl rfl (q_addI (m := 262143) rfl rfl (by omega)) rfl fun a hA => ?_
            refine gq hA rfl rfl (q_addI (n := 12) rfl rfl (by omega)) rfl fun a hA => ?_
            refine gq hA rfl rfl (q_neqI rfl rfl) rfl fun a hA => ?_
            replace hA := hA.decF (by split at hL2 <;> split at hL3 <;> omega)
            refine gq hA rfl rfl (q_pick_t rfl rfl) rfl fun a hA => ?_
            refine sq hA (q_pick_f rfl rfl) rfl fun a hA => ?_
            refine wpList_nil ?_
            refine hK10 _ _ ?_
            clear hK10
            replace hA := hA.sub (E' := [(64, _), (8, _), (7, _), (6, _), (5, _), (4, _)]) ⟨rfl, rfl, rfl, rfl, rfl, rfl, trivial⟩
            refine cond_f hA rfl ?_
            refine wp_skip ?_
            refine hK7 _ _ ?_
            clear hK7
            replace hA := hA.sub (E' := [(8, _), (7, _), (6, _), (5, _), (4, _)]) ⟨rfl, rfl, rfl, rfl, rfl, trivial⟩
            refine wp_seq_k fun K11 hK11 => ?_
            refine wp_region_lit ?_
            refine sq hA (q_move rfl) rfl fun a hA => ?_
            refine sq hA (q_move rfl) rfl fun a hA => ?_
            refine sl hA (lo_call fn17 rfl (same_any _ _ _ _ (Own.rd0 hO_t18 hH 3 rfl) (Own.rd0 hO_t23 hH 2 rfl) (by first | omega | (simp; done) | (simp; omega)) (by first | omega | (simp; done) | (simp; omega)))) rfl ?_
            rintro _ w ⟨rfl, hC⟩ a hA
            replace hH := HS.call0 hH hC
            clear hC
            replace hA := hA.decT (by first | rfl | omega | assumption | (simp; done) | (simp [*]; done))
            refine sq hA (q_move rfl) rfl fun a hA => ?_
            refine gq hA rfl rfl (q_move rfl) rfl fun a hA => ?_
            refine gq hA rfl rfl (q_move rfl) rfl fun a hA => ?_
            refine gq hA rfl rfl (q_eqlI rfl rfl) rfl fun a hA => ?_
            refine sq hA (q_pick_t rfl rfl) rfl fun a hA => ?_
            replace hA := hA.decT (by first | rfl | omega | assumption | (simp; done) | (simp [*]; done))
            refine sq hA (q_move rfl) rfl fun a hA => ?_
            refine gl hA rfl rfl (lo_call fn13 rfl (awake11_any (hg.mono0 hH))) rfl ?_
            rintro _ w ⟨rfl, hC⟩ a hA
            replace hH := HS.call0 hH hC
            clear hC
            refine sq hA (q_pick_t rfl rfl) rfl fun a hA => ?_
            refine sq hA (q_assign rfl) rfl fun a hA => ?_
            refine wpList_nil ?_
            refine hK11 _ _ ?_
            clear hK11
            replace hA := hA.sub (E' := [(4, _)]) ⟨rfl, trivial⟩
            refine wp_ret ?_
            refine post_ret hA (res_1 rfl hA rfl) ?_
            replace hH := hH.pick [] (Hs' := []) rfl
            exact ⟨_, rfl, rfl, hH⟩
          · skip
            refine gq hA rfl rfl (q_move rfl) rfl fun a hA => ?_
            refine gs hA rfl rfl rfl rfl fun a hA => ?_
            refine gs hA rfl rfl rfl rfl fun a hA => ?_
            refine gs hA rfl rfl rfl rfl fun a hA => ?_
            refine gs hA rfl rfl rfl rfl fun a hA => ?_
            refine gs hA rfl rfl rfl rfl fun a hA => ?_
            refine gs hA rfl rfl rfl rfl fun a hA => ?_
            refine gq hA rfl rfl (q_pick_f rfl rfl) rfl fun a hA => ?_
            refine sq hA (q_pick_f rfl rfl) rfl fun a hA => ?_
            refine wpList_nil ?_
            refine hK10 _ _ ?_
            clear hK10
            replace hA := hA.sub (E' := [(64, _), (8, _), (7, _), (6, _), (5, _), (4, _)]) ⟨rfl, rfl, rfl, rfl, rfl, rfl, trivial⟩
            refine cond_f hA rfl ?_
            refine wp_skip ?_
            refine hK7 _ _ ?_
            clear hK7
            replace hA := hA.sub (E' := [(8, _), (7, _), (6, _), (5, _), (4, _)]) ⟨rfl, rfl, rfl, rfl, rfl, trivial⟩
            refine wp_seq_k fun K12 hK12 => ?_
            refine wp_region_lit ?_
            refine sq hA (q_move rfl) rfl fun a hA => ?_
            refine sq hA (q_move rfl) rfl fun a hA => ?_
            refine sl hA (lo_call fn17 rfl (same_any _ _ _ _ (Own.rd0 hO_t18 hH 3 rfl) (Own.rd0 hO_t23 hH 2 rfl) (by first | omega | (simp; done) | (simp; omega)) (by first | omega | (simp; done) | (simp; omega)))) rfl ?_
            rintro _ w ⟨rfl, hC⟩ a hA
            replace hH := HS.call0 hH hC
            clear hC
            replace hA := hA.decT (by first | rfl | omega | assumption | (simp; done) | (simp [*]; done))
            refine sq hA (q_move rfl) rfl fun a hA => ?_
            refine gq hA rfl rfl (q_move rfl) rfl fun a hA => ?_
            refine gq hA rfl rfl (q_move rfl) rfl fun a hA => ?_
            refine gq hA rfl rfl (q_eqlI rfl rfl) rfl fun a hA => ?_
            refine sq hA (q_pick_t rfl rfl) rfl fun a hA => ?_
            replace hA := hA.decT (by first | rfl | omega | assumption | (simp; done) | (simp [*]; done))
            refine sq hA (q_move rfl) rfl fun a hA => ?_
            refine gl hA rfl rfl (lo_call fn13 rfl (awake11_any (hg.mono0 hH))) rfl ?_
            rintro _ w ⟨rfl, hC⟩ a hA
            replace hH := HS.call0 hH hC
            clear hC
            refine sq hA (q_pick_t rfl rfl) rfl fun a hA => ?_
            refine sq hA (q_assign rfl) rfl fun a hA => ?_
            refine wpList_nil ?_
            refine hK12 _ _ ?_
            clear hK12
            replace hA := hA.sub (E' := [(4, _)]) ⟨rfl, trivial⟩
            refine wp_ret ?_
            refine post_ret hA (res_1 rfl hA rfl) ?_
            replace hH := hH.pick [] (Hs' := []) rfl
            exact ⟨_, rfl, rfl, hH⟩
        · skip
          refine gq hA rfl rfl (q_move rfl) rfl fun a hA => ?_
          refine gs hA rfl rfl rfl rfl fun a hA => ?_
          refine gs hA rfl rfl rfl rfl fun a hA => ?_
          refine gs hA rfl rfl rfl rfl fun a hA => ?_
          refine gq hA rfl rfl (q_pick_f rfl rfl) rfl fun a hA => ?_
          refine sq hA (q_pick_f rfl rfl) rfl fun a hA => ?_
          refine sq hA (q_move rfl) rfl fun a hA => ?_
          refine gq hA rfl rfl (q_move rfl) rfl fun a hA => ?_
          refine gq hA rfl rfl (q_eqlI (n := 0) rfl rfl) rfl fun a hA => ?_
          refine hA.spl (fun hs55 hA => ?_) (fun hs55 hA => ?_)
          · skip
            refine gq hA rfl rfl (q_move rfl) rfl fun a hA => ?_
            refine gq hA rfl rfl (q_move rfl) rfl fun a hA => ?_
            refine gq hA rfl rfl (q_len Tryd.underlying22 rfl (Own.shp hO_t36)) rfl fun a hA => ?_
            refine gq hA rfl rfl (q_move rfl) rfl fun a hA => ?_
            refine gq hA rfl rfl (q_addI (m := 262143) rfl rfl (by omega)) rfl fun a hA => ?_
            refine gq hA rfl rfl (q_addI (n := 12) rfl rfl (by omega)) rfl fun a hA => ?_
            refine gq hA rfl rfl (q_neqI rfl rfl) rfl fun a hA => ?_
            replace hA := hA.decF (by split at hL2 <;> split at hL3 <;> omega)
            refine gq hA rfl rfl (q_pick_t rfl rfl) rfl fun a hA => ?_
            refine sq hA (q_pick_f rfl rfl) rfl fun a hA => ?_
            refine wpList_nil ?_
            refine hK10 _ _ ?_
            clear hK10
            replace hA := hA.sub (E' := [(64, _), (8, _), (7, _), (6, _), (5, _), (4, _)]) ⟨rfl, rfl, rfl, rfl, rfl, rfl, trivial⟩
            refine cond_f hA rfl ?_
            refine wp_skip ?_
            refine hK7 _ _ ?_
            clear hK7
            replace hA := hA.sub (E' := [(8, _), (7, _), (6, _), (5, _), (4, _)]) ⟨rfl, rfl, rfl, rfl, rfl, trivial⟩
            refine wp_seq_k fun K13 hK13 => ?_
            refine wp_region_lit ?_
            refine sq hA (q_move rfl) rfl fun a hA => ?_
            refine sq hA (q_move rfl) rfl fun a hA => ?_
            refine sl hA (lo_call fn17 rfl (same_any _ _ _ _ (Own.rd0 hO_t18 hH 3 rfl) (Own.rd0 hO_t23 hH 2 rfl) (by first | omega | (simp; done) | (simp; omega)) (by first | omega | (simp; done) | (simp; omega)))) rfl ?_
            rintro _ w ⟨rfl, hC⟩ a hA
            replace hH := HS.call0 hH hC
            clear hC
            replace hA := hA.decT (by first | rfl | omega | assumption | (simp; done) | (simp [*]; done))
            refine sq hA (q_move rfl) rfl fun a hA => ?_
            refine gq hA rfl rfl (q_move rfl) rfl fun a hA => ?_
            refine gq hA rfl rfl (q_move rfl) rfl fun a hA => ?_
            refine gq hA rfl rfl (q_eqlI rfl rfl) rfl fun a hA => ?_
            refine sq hA (q_pick_t rfl rfl) rfl fun a hA => ?_
            replace hA := hA.decT (by first | rfl | omega | assumption | (simp; done) | (simp [*]; done))
            refine sq hA (q_move rfl) rfl fun a hA => ?_
            refine gl hA rfl rfl (lo_call fn13 rfl (awake11_any (hg.mono0 hH))) rfl ?_
            rintro _ w ⟨rfl, hC⟩ a hA
            replace hH := HS.call0 hH hC
            clear hC
            refine sq hA (q_pick_t rfl rfl) rfl fun a hA => ?_
            refine sq hA (q_assign rfl) rfl fun a hA => ?_
            refine wpList_nil ?_
            refine hK13 _ _ ?_
            clear hK13
            replace hA := hA.sub (E' := [(4, _)]) ⟨rfl, trivial⟩
            refine wp_ret ?_
            refine post_ret hA (res_1 rfl hA rfl) ?_
            replace hH := hH.pick [] (Hs' := []) rfl
            exact ⟨_, rfl, rfl, hH⟩
          · skip
            refine gq hA rfl rfl (q_move rfl) rfl fun a hA => ?_
            refine gs hA rfl rfl rfl rfl fun a hA => ?_
            refine gs hA rfl rfl rfl rfl fun a hA => ?_
            refine gs hA rfl rfl rfl rfl fun a hA => ?_
            refine gs hA rfl rfl rfl rfl fun a hA => ?_
            refine gs hA rfl rfl rfl rfl fun a hA => ?_
            refine gs hA rfl rfl rfl rfl fun a hA => ?_
            refine gq hA rfl rfl (q_pick_f rfl rfl) rfl fun a hA => ?_
            refine sq hA (q_pick_f rfl rfl) rfl fun a hA => ?_
            refine wpList_nil ?_
            refine hK10 _ _ ?_
            clear hK10
            replace hA := hA.sub (E' := [(64, _), (8, _), (7, _), (6, _), (5, _), (4, _)]) ⟨rfl, rfl, rfl, rfl, rfl, rfl, trivial⟩
            refine cond_f hA rfl ?_
            refine wp_skip ?_
            refine hK7 _ _ ?_
            clear hK7
            replace hA := hA.sub (E' := [(8, _), (7, _), (6, _), (5, _), (4, _)]) ⟨rfl, rfl, rfl, rfl, rfl, trivial⟩
            refine wp_seq_k fun K14 hK14 => ?_
            refine wp_region_lit ?_
            refine sq hA (q_move rfl) rfl fun a hA => ?_
            refine sq hA (q_move rfl) rfl fun a hA => ?_
            refine sl hA (lo_call fn17 rfl (same_any _ _ _ _ (Own.rd0 hO_t18 hH 3 rfl) (Own.rd0 hO_t23 hH 2 rfl) (by first | omega | (simp; done) | (simp; omega)) (by first | omega | (simp; done) | (simp; omega)))) rfl ?_
            rintro _ w ⟨rfl, hC⟩ a hA
            replace hH := HS.call0 hH hC
            clear hC
            replace hA := hA.decT (by first | rfl | omega | assumption | (simp; done) | (simp [*]; done))
            refine sq hA (q_move rfl) rfl fun a hA => ?_
            refine gq hA rfl rfl (q_move rfl) rfl fun a hA => ?_
            refine gq hA rfl rfl (q_move rfl) rfl fun a hA => ?_
            refine gq hA rfl rfl (q_eqlI rfl rfl) rfl fun a hA => ?_
            refine sq hA (q_pick_t rfl rfl) rfl fun a hA => ?_
            replace hA := hA.decT (by first | rfl | omega | assumption | (simp; done) | (simp [*]; done))
            refine sq hA (q_move rfl) rfl fun a hA => ?_
            refine gl hA rfl rfl (lo_call fn13 rfl (awake11_any (hg.mono0 hH))) rfl ?_
            rintro _ w ⟨rfl, hC⟩ a hA
            replace hH := HS.call0 hH hC
            clear hC
            refine sq hA (q_pick_t rfl rfl) rfl fun a hA => ?_
            refine sq hA (q_assign rfl) rfl fun a hA => ?_
            refine wpList_nil ?_
            refine hK14 _ _ ?_
            clear hK14
            replace hA := hA.sub (E' := [(4, _)]) ⟨rfl, trivial⟩
            refine wp_ret ?_
            refine post_ret hA (res_1 rfl hA rfl) ?_
            replace hH := hH.pick [] (Hs' := []) rfl
            exact ⟨_, rfl, rfl, hH⟩
      · skip
        refine wp_skip ?_
        refine hK7 _ _ ?_
        clear hK7
        replace hA := hA.sub (E' := [(8, _), (7, _), (6, _), (5, _), (4, _)]) ⟨rfl, rfl, rfl, rfl, rfl, trivial⟩
        refine wp_seq_k fun K15 hK15 => ?_
        refine wp_region_lit ?_
        refine sq hA (q_move rfl) rfl fun a hA => ?_
        refine sq hA (q_move rfl) rfl fun a hA => ?_
        refine sl hA (lo_call fn17 rfl (same_any _ _ _ _ (Own.rd0 hO_t18 hH 1 rfl) (Own.rd0 hO_t23 hH 0 rfl) (by first | omega | (simp; done) | (simp; omega)) (by first | omega | (simp; done) | (simp; omega)))) rfl ?_
        rintro _ w ⟨rfl, hC⟩ a hA
        replace hH := HS.call0 hH hC
        clear hC
        replace hA := hA.decT (by first | rfl | omega | assumption | (simp; done) | (simp [*]; done))
        refine sq hA (q_move rfl) rfl fun a hA => ?_
        refine gq hA rfl rfl (q_move rfl) rfl fun a hA => ?_
        refine gq hA rfl rfl (q_move rfl) rfl fun a hA => ?_
        refine gq hA rfl rfl (q_eqlI rfl rfl) rfl fun a hA => ?_
        refine sq hA (q_pick_t rfl rfl) rfl fun a hA => ?_
        replace hA := hA.decT (by first | rfl | omega | assumption | (simp; done) | (simp [*]; done))
        refine sq hA (q_move rfl) rfl fun a hA => ?_
        refine gl hA rfl rfl (lo_call fn13 rfl (awake11_any (hg.mono0 hH))) rfl ?_
        rintro _ w ⟨rfl, hC⟩ a hA
        replace hH := HS.call0 hH hC
        clear hC
        refine sq hA (q_pick_t rfl rfl) rfl fun a hA => ?_
        refine sq hA (q_assign rfl) rfl fun a hA => ?_
        refine wpList_nil ?_
        refine hK15 _ _ ?_
        clear hK15
        replace hA := hA.sub (E' := [(4, _)]) ⟨rfl, trivial⟩
        refine wp_ret ?_
        refine post_ret hA (res_1 rfl hA rfl) ?_
        replace hH := hH.pick [] (Hs' := []) rfl
        exact ⟨_, rfl, rfl, hH⟩
    · skip
      refine sq hA (q_move rfl) rfl fun a hA => ?_
      refine gs hA rfl rfl rfl rfl fun a hA => ?_
      refine gs hA rfl rfl rfl rfl fun a hA => ?_
      refine sq hA (q_pick_f rfl rfl) rfl fun a hA => ?_
      refine wpList_nil ?_
      refine hK8 _ _ ?_
      clear hK8
      replace hA := hA.sub (E' := [(31, _), (8, _), (7, _), (6, _), (5, _), (4, _), (1, _)]) ⟨rfl, rfl, rfl, rfl, rfl, rfl, rfl, trivial⟩
      refine cond_f hA rfl ?_
      refine wp_skip ?_
      refine hK7 _ _ ?_
      clear hK7
      replace hA := hA.sub (E' := [(8, _), (7, _), (6, _), (5, _), (4, _)]) ⟨rfl, rfl, rfl, rfl, rfl, trivial⟩
      refine wp_seq_k fun K16 hK16 => ?_
      refine wp_region_lit ?_
      refine sq hA (q_move rfl) rfl fun a hA => ?_
      refine sq hA (q_move rfl) rfl fun a hA => ?_
      refine sl hA (lo_call fn17 rfl (same_any _ _ _ _ (Own.rd0 hO_t18 hH 1 rfl) (Own.rd0 hO_t23 hH 0 rfl) (by first | omega | (simp; done) | (simp; omega)) (by first | omega | (simp; done) | (simp; omega)))) rfl ?_
      rintro _ w ⟨rfl, hC⟩ a hA
      replace hH := HS.call0 hH hC
      clear hC
      replace hA := hA.decT (by first | rfl | omega | assumption | (simp; done) | (simp [*]; done))
      refine sq hA (q_move rfl) rfl fun a hA => ?_
      refine gq hA rfl rfl (q_move rfl) rfl fun a hA => ?_
      refine gq hA rfl rfl (q_move rfl) rfl fun a hA => ?_
      refine gq hA rfl rfl (q_eqlI rfl rfl) rfl fun a hA => ?_
      refine sq hA (q_pick_t rfl rfl) rfl fun a hA => ?_
      replace hA := hA.decT (by first | rfl | omega | assumption | (simp; done) | (simp [*]; done))
      refine sq hA (q_move rfl) rfl fun a hA => ?_
      refine gl hA rfl rfl (lo_call fn13 rfl (awake11_any (hg.mono0 hH))) rfl ?_
      rintro _ w ⟨rfl, hC⟩ a hA
      replace hH := HS.call0 hH hC
      clear hC
      refine sq hA (q_pick_t rfl rfl) rfl fun a hA => ?_
      refine sq hA (q_assign rfl) rfl fun a hA => ?_
      refine wpList_nil ?_
      refine hK16 _ _ ?_
      clear hK16
      replace hA := hA.sub (E' := [(4, _)]) ⟨rfl, trivial⟩
      refine wp_ret ?_
      refine post_ret hA (res_1 rfl hA rfl) ?_
      replace hH := hH.pick [] (Hs' := []) rfl
      exact ⟨_, rfl, rfl, hH⟩

theorem frameOne_any {w0 : World} {lv : Nat} (hg : Gl lv w0) (v : Value) (l : Bs) (hr : By [] w0 v l) (hl : l.length ≤ 1048576) :
    Calls Tryd.prog 7 #[v] w0 (Ret fun r w' => r = .bool true ∧ HS [] w0 w' []) := by
  have hH := HS.start w0
  refine start (n := 56) (E := [(0, _)]) Tryd.func7 rfl rfl rfl (args_look rfl) ?_
  intro a hA
  obtain ⟨K, hK⟩ : ∃ x, x = scanV l := ⟨_, rfl⟩
  have hK' : K = scanV ([] ++ l) := hK
  have hc := scN_count l l.length
  have hkl : 9 * K.1.length ≤ K.2 := by rw [hK]; exact hc
  have hk2 : K.2 ≤ l.length := by rw [hK]; exact scN_le l _
  have hks : ∀ x ∈ K.1, x.length ≤ 262144 := fun x hx => (scN_one l l.length).2 x (by rw [hK] at hx; exact hx)
  have hkw : wfs K.1 = l.take K.2 := by rw [hK]; exact (scN_one l l.length).1
  refine wp_seq_k fun K1 hK1 => ?_
  refine wp_region_lit ?_
  refine sq hA (q_assign rfl) rfl fun a hA => ?_
  refine wpList_nil ?_
  refine hK1 _ _ ?_
  clear hK1
  refine wp_seq_k fun K2 hK2 => ?_
  refine wp_seq_k fun K3 hK3 => ?_
  refine wp_region_lit ?_
  refine sq hA (q_move rfl) rfl fun a hA => ?_
  refine sq hA (q_len Tryd.underlying22 rfl (Rd.shp hr)) rfl fun a hA => ?_
  refine sq hA (q_gtrI (n := 4000) rfl rfl) rfl fun a hA => ?_
  refine wpList_nil ?_
  refine hK3 _ _ ?_
  clear hK3
  replace hA := hA.sub (E' := [(11, _), (2, _), (0, _)]) ⟨rfl, rfl, rfl, trivial⟩
  refine cond_d hA rfl (fun hc11 => ?_) (fun hc11 => ?_)
  · skip
    refine wp_seq_k fun K4 hK4 => ?_
    refine wp_region_lit ?_
    refine sl hA (lo_call fn13 rfl (awake11_any (hg.mono0 hH))) rfl ?_
    rintro _ w ⟨rfl, hC⟩ a hA
    replace hH := HS.call0 hH hC
    clear hC
    refine sq hA (q_assign rfl) rfl fun a hA => ?_
    refine wpList_nil ?_
    refine hK4 _ _ ?_
    clear hK4
    replace hA := hA.sub (E' := [(2, _), (0, _)]) ⟨rfl, rfl, trivial⟩
    refine wp_ret ?_
    refine then_ret ?_
    refine post_ret hA (res_1 rfl hA rfl) ?_
    exact ⟨_, rfl, rfl, hH⟩
  · skip
    refine wp_skip ?_
    refine hK2 _ _ ?_
    clear hK2
    replace hA := hA.sub (E' := [(2, _), (0, _)]) ⟨rfl, rfl, trivial⟩
    refine wp_seq_k fun K5 hK5 => ?_
    refine wp_region_lit ?_
    refine sq hA (q_move rfl) rfl fun a hA => ?_
    refine sl hA (lo_call fn15 rfl (own11_any _ _ (hH.rd hr) (by first | omega | (simp; done) | (simp; omega)))) rfl ?_
    rintro _ w ⟨v_t15, N_t15, rfl, hO_t15, hC⟩ a hA
    replace hH := HS.call0 hH hC
    clear hC
    refine sl hA (lo_call fn18 rfl (scan_g (hg.mono0 hH) _ _ (Own.rd0 hO_t15 hH 0 rfl) (by first | omega | (simp; done) | (simp; omega)) (by assumption))) rfl ?_
    rintro _ w ⟨v_t16, N_t16, N_dt16, rfl, hR_t16, hC⟩ a hA
    replace hH := HS.call0 hH hC
    clear hC
    refine sq hA (q_move rfl) rfl fun a hA => ?_
    refine sq hA (q_extract rfl rfl) rfl fun a hA => ?_
    refine sq hA (q_extract rfl rfl) rfl fun a hA => ?_
    refine sq hA (q_assign rfl) rfl fun a hA => ?_
    refine sq hA (q_assign rfl) rfl fun a hA => ?_
    refine wpList_nil ?_
    refine hK5 _ _ ?_
    clear hK5
    replace hA := hA.sub (E' := [(4, _), (3, _), (2, _), (0, _)]) ⟨rfl, rfl, rfl, rfl, trivial⟩
    refine wp_seq_k fun K6 hK6 => ?_
    refine wp_region_lit ?_
    refine sq hA (q_assign rfl) rfl fun a hA => ?_
    refine wpList_nil ?_
    refine hK6 _ _ ?_
    clear hK6
    refine wp_seq_k fun K7 hK7 => ?_
    refine wp_seq_k fun K8 hK8 => ?_
    refine wp_region_lit ?_
    refine sq hA (q_assign rfl) rfl fun a hA => ?_
    refine wpList_nil ?_
    refine hK8 _ _ ?_
    clear hK8
    refine wp_block ?_
    replace hH := hH.nilFront
    replace hH := HS.fold [_, _, _] [_] hH
    obtain ⟨NR9, hNR9, hH⟩ := hH
    refine wp_loop_ghost (fun gm a w => ∃ i : Nat, ∃ v_a : Value, ∃ N_a : Hl, At 56 [(6, I i), (5, v_a), (4, I K.2), (3, v_t16), (2, (.bool false)), (0, v)] a ∧ HS [] w0 w ([N_a, N_t16, N_dt16, NR9]) ∧ (Ow B8 5 v_a (wfs (K.1.take i)) N_a) ∧ (i ≤ K.1.length) ∧ gm = K.1.length - i) (K.1.length - (0)) ⟨0, nilV, [], hA.sub ⟨rfl, rfl, rfl, rfl, rfl, rfl, trivial⟩, hH, by exact Ow.nil B8 _, by omega, rfl⟩ ?_
    clear hA hH
    rintro gm a w ⟨i, v_a, N_a, hA, hH, hO_a, hi, rfl⟩
    refine wp_seq_k fun K10 hK10 => ?_
    refine wp_seq_k fun K11 hK11 => ?_
    refine wp_region_lit ?_
    refine sq hA (q_move rfl) rfl fun a hA => ?_
    refine sq hA (q_move rfl) rfl fun a hA => ?_
    refine sq hA (q_len Tryd.underlying32 rfl (RowsH.shp hR_t16)) rfl fun a hA => ?_
    refine sq hA (q_lssI rfl rfl) rfl fun a hA => ?_
    refine wpList_nil ?_
    refine hK11 _ _ ?_
    clear hK11
    refine cond_d hA rfl (fun hc22 => ?_) (fun hc22 => ?_)
    · skip
      refine wp_skip ?_
      refine hK10 _ _ ?_
      clear hK10
      refine wp_seq_k fun K12 hK12 => ?_
      refine wp_block ?_
      refine wp_seq_k fun K13 hK13 => ?_
      refine wp_region_lit ?_
      refine sq hA (q_move rfl) rfl fun a hA => ?_
      refine sq hA (q_move rfl) rfl fun a hA => ?_
      refine sq hA (q_idx1 (i) Tryd.underlying32 ti22 rfl rfl (by first | omega | rfl) (RowsH.shp hR_t16) (by first | omega | (simp; done) | (simp; omega) | (rw [List.length_map]; assumption) | assumption | rfl | (simp [*]; done) | (simp [*]; omega))) rfl fun a hA => ?_
      have hx_t29 := hR_t16
      obtain ⟨vs_t29, hvl_t29, hvo_t29, hvr_t29⟩ := hx_t29
      refine sq hA (q_loadR Tryd.underlying22 rfl rfl (Own.rd0 hvo_t29 hH 1 rfl) (by first | omega | (simp; done) | (simp; omega) | (rw [List.length_map]; assumption) | assumption | rfl | (simp [*]; done) | (simp [*]; omega)) (getD_some' vs_t29 nilV (by first | omega | (simp; done) | (simp; omega) | (rw [List.length_map]; assumption) | assumption | rfl | (simp [*]; done) | (simp [*]; omega)))) rfl fun a hA => ?_
      have hr_ := hks (K.1.getD i []) (getD_mem (by omega))
      obtain ⟨Q, hQ⟩ : ∃ Q, Q = wrapV (K.1.getD i []) := ⟨_, rfl⟩
      have hql : Q.1.length ≤ 262144 + 17 := by rw [hQ]; exact wrapV_len _
      have hwt := wfs_take_le K.1 i
      have hwt2 := congrArg List.length hkw
      rw [List.length_take] at hwt2
      have hQ1 : Q = (wf (K.1.getD i []), 0) := by rw [hQ]; exact wrapV_ok (by omega)
      refine sl hA (lo_call fn14 rfl (wrap_g (hg.mono0 hH) _ _ ((hvr_t29 (i) (by first | omega | (simp; done) | (simp; omega) | (rw [List.length_map]; assumption) | assumption | rfl | (simp [*]; done) | (simp [*]; omega))) [] _ (RO.of hH 2 rfl)) (by first | omega | (simp; done) | (simp; omega)) (by assumption))) rfl ?_
      rintro _ w ⟨v_t30, N_t30, rfl, hO_t30, hC⟩ a hA
      replace hH := HS.call0 hH hC
      clear hC
      refine sq hA (q_move rfl) rfl fun a hA => ?_
      refine sq hA (q_extract rfl rfl) rfl fun a hA => ?_
      refine sq hA (q_extract rfl rfl) rfl fun a hA => ?_
      refine sq hA (q_assign rfl) rfl fun a hA => ?_
      refine sq hA (q_assign rfl) rfl fun a hA => ?_
      refine wpList_nil ?_
      refine hK13 _ _ ?_
      clear hK13
      refine wp_seq_k fun K14 hK14 => ?_
      refine wp_seq_k fun K15 hK15 => ?_
      refine wp_region_lit ?_
      refine sq hA (q_move rfl) rfl fun a hA => ?_
      refine sq hA (q_neqI (n := 0) rfl rfl) rfl fun a hA => ?_
      replace hA := hA.decF (by rw [hQ1]; simp)
      refine wpList_nil ?_
      refine hK15 _ _ ?_
      clear hK15
      refine cond_f hA rfl ?_
      refine wp_skip ?_
      refine hK14 _ _ ?_
      clear hK14
      refine wp_region_lit ?_
      refine sq hA (q_move rfl) rfl fun a hA => ?_
      refine sq hA (q_move rfl) rfl fun a hA => ?_
      replace hH := hH.pick [1, 0, 2, 3, 4] (Hs' := [_, _, _, _, _]) rfl
      refine sl hA (lo_appm hH Tryd.underlying22 Tryd.underlying22 (.inl rfl) ti5 rfl rfl rfl hO_a (Rd.src (Own.rd0 hO_t30 hH 1 rfl)) (one_B8 _) (by first | omega | (simp; done) | (simp; omega)) (by first | omega | (simp; done) | (simp; omega))) rfl ?_
      clear hH; rintro v_t37 w ⟨N_t37, hO_t37, hH⟩ a hA
      refine sq hA (q_assign rfl) rfl fun a hA => ?_
      refine wpList_nil ?_
      refine block_normal ?_
      refine hK12 _ _ ?_
      clear hK12
      refine wp_region_lit ?_
      refine sq hA (q_move rfl) rfl fun a hA => ?_
      refine sq hA (q_addI (n := 1) rfl rfl (by omega)) rfl fun a hA => ?_
      refine sq hA (q_assign rfl) rfl fun a hA => ?_
      refine wpList_nil ?_
      replace hH := hH.pick [0, 2, 3, 4, 1] (Hs' := [_, _, _, _, _]) rfl
      replace hH := hH.pick [0, 1, 2, 3] (Hs' := [_, _, _, _]) rfl
      exact ⟨_, by omega, i + 1, v_t37, N_t37, hA.sub ⟨rfl, rfl, rfl, rfl, rfl, rfl, trivial⟩, hH, by (rw [wfs_snoc _ (by omega)]; rw [hQ1] at hO_t37; exact hO_t37), by omega, rfl⟩
    · skip
      obtain rfl : i = K.1.length := by omega
      rw [List.take_length, hkw] at hO_a
      refine wp_exit ?_
      refine then_exit ?_
      replace hH := HS.unfold [_, _, _] hNR9 hH
      refine then_exit ?_
      refine exit_here ?_
      refine hK7 _ _ ?_
      clear hK7
      replace hA := hA.sub (E' := [(5, _), (4, _), (2, _), (0, _)]) ⟨rfl, rfl, rfl, rfl, trivial⟩
      refine wp_seq_k fun K16 hK16 => ?_
      refine wp_region_lit ?_
      refine sq hA (q_move rfl) rfl fun a hA => ?_
      refine sq hA (q_geqI (n := 0) rfl rfl) rfl fun a hA => ?_
      replace hA := hA.decT (by omega)
      refine sq hA (q_move rfl) rfl fun a hA => ?_
      refine gq hA rfl rfl (q_move rfl) rfl fun a hA => ?_
      refine gq hA rfl rfl (q_move rfl) rfl fun a hA => ?_
      refine gq hA rfl rfl (q_len Tryd.underlying22 rfl (Rd.shp hr)) rfl fun a hA => ?_
      refine gq hA rfl rfl (q_leqI rfl rfl) rfl fun a hA => ?_
      replace hA := hA.decT (by omega)
      refine sq hA (q_pick_t rfl rfl) rfl fun a hA => ?_
      refine sq hA (q_move rfl) rfl fun a hA => ?_
      refine gq hA rfl rfl (q_move rfl) rfl fun a hA => ?_
      refine gq hA rfl rfl (q_move rfl) rfl fun a hA => ?_
      refine gq hA rfl rfl (q_move rfl) rfl fun a hA => ?_
      obtain ⟨v_t50, hv_t50, hO_t50⟩ := Rm.cut0 hr (K.2) (by omega)
      refine gq hA rfl rfl (q_slice Tryd.underlying22 ti5 rfl (0) (K.2) hv_t50 (Rd.shp hr) rfl rfl (rfl) (rfl) (by omega) (by omega)) rfl fun a hA => ?_
      refine gl hA rfl rfl (lo_call fn17 rfl (same_any _ _ _ _ (Own.rd0 hO_a hH 0 rfl) (hH.rd hO_t50) (by first | omega | (simp; done) | (simp; omega)) (by first | omega | (simp; done) | (simp; omega)))) rfl ?_
      rintro _ w ⟨rfl, hC⟩ a hA
      replace hH := HS.call0 hH hC
      clear hC
      refine sq hA (q_pick_t rfl rfl) rfl fun a hA => ?_
      replace hA := hA.decT (by rfl)
      refine sq hA (q_move rfl) rfl fun a hA => ?_
      refine gl hA rfl rfl (lo_call fn13 rfl (awake11_any (hg.mono0 hH))) rfl ?_
      rintro _ w ⟨rfl, hC⟩ a hA
      replace hH := HS.call0 hH hC
      clear hC
      refine sq hA (q_pick_t rfl rfl) rfl fun a hA => ?_
      refine sq hA (q_assign rfl) rfl fun a hA => ?_
      refine wpList_nil ?_
      refine hK16 _ _ ?_
      clear hK16
      replace hA := hA.sub (E' := [(2, _)]) ⟨rfl, trivial⟩
      refine wp_ret ?_
      refine post_ret hA (res_1 rfl hA rfl) ?_
      replace hH := hH.pick [] (Hs' := []) rfl
      exact ⟨_, rfl, rfl, hH⟩

theorem made_any {w0 : World} {lv : Nat} (hg : Gl lv w0) (v : Value) (vs : List Value) (p : List Bs) (hvl : vs.length = p.length) (hvr : Rd [] w0 v p.length 1 vs) (hvb : ∀ i, i < p.length → By [] w0 (vs.getD i nilV) (p.getD i [])) (hpl0 : p.length ≤ 1048576) :
    Calls Tryd.prog 21 #[v] w0 (Ret fun r w' => ∃ v' N B, r = .tuple #[v', .bool B] ∧ (B = true → Ow B8 5 v' (wfs p) N ∧ p.length ≤ 40 ∧ (∀ x ∈ p, x.length ≤ 500) ∧ (wfs p).length ≤ 40 * 517) ∧ HS [] w0 w' [N]) := by
  have hH := HS.start w0
  refine start (n := 38) (E := [(0, _)]) Tryd.func21 rfl rfl rfl (args_look rfl) ?_
  intro a hA
  refine wp_seq_k fun K1 hK1 => ?_
  refine wp_region_lit ?_
  refine sq hA (q_assign rfl) rfl fun a hA => ?_
  refine sq hA (q_assign rfl) rfl fun a hA => ?_
  refine wpList_nil ?_
  refine hK1 _ _ ?_
  clear hK1
  refine wp_seq_k fun K2 hK2 => ?_
  refine wp_region_lit ?_
  refine sq hA (q_assign rfl) rfl fun a hA => ?_
  refine wpList_nil ?_
  refine hK2 _ _ ?_
  clear hK2
  refine wp_seq_k fun K3 hK3 => ?_
  refine wp_seq_k fun K4 hK4 => ?_
  refine wp_region_lit ?_
  refine sq hA (q_move rfl) rfl fun a hA => ?_
  refine sq hA (q_len Tryd.underlying32 rfl (Rd.shp hvr)) rfl fun a hA => ?_
  refine sq hA (q_gtrI (n := 40) rfl rfl) rfl fun a hA => ?_
  refine wpList_nil ?_
  refine hK4 _ _ ?_
  clear hK4
  replace hA := hA.sub (E' := [(10, _), (4, _), (3, _), (2, _), (0, _)]) ⟨rfl, rfl, rfl, rfl, rfl, trivial⟩
  refine cond_d hA rfl (fun hc10 => ?_) (fun hc10 => ?_)
  · skip
    refine wp_seq_k fun K5 hK5 => ?_
    refine wp_region_lit ?_
    refine sq hA (q_assign rfl) rfl fun a hA => ?_
    refine sq hA (q_assign rfl) rfl fun a hA => ?_
    refine wpList_nil ?_
    refine hK5 _ _ ?_
    clear hK5
    replace hA := hA.sub (E' := [(3, _), (2, _), (4, _), (0, _)]) ⟨rfl, rfl, rfl, rfl, trivial⟩
    refine wp_ret ?_
    refine then_ret ?_
    refine post_ret hA (res_2 rfl hA rfl rfl) ?_
    first
      | exact ⟨_, rfl, _, N_a, false, rfl, (fun h => by cases h), hH⟩
      | exact ⟨_, rfl, _, [], false, rfl, (fun h => by cases h), hH.nilFront⟩
      | obtain rfl : i = p.length := by omega
        rw [List.take_length] at hO_a h5 hwl
        exact ⟨_, rfl, v_a, N_a, true, rfl, fun _ => ⟨hO_a, by omega, h5, by omega⟩, hH⟩
  · skip
    refine wp_skip ?_
    refine hK3 _ _ ?_
    clear hK3
    replace hA := hA.sub (E' := [(4, _), (3, _), (2, _), (0, _)]) ⟨rfl, rfl, rfl, rfl, trivial⟩
    refine wp_seq_k fun K6 hK6 => ?_
    refine wp_seq_k fun K7 hK7 => ?_
    refine wp_region_lit ?_
    refine sq hA (q_assign rfl) rfl fun a hA => ?_
    refine wpList_nil ?_
    refine hK7 _ _ ?_
    clear hK7
    refine wp_block ?_
    replace hH := hH.nilFront
    refine wp_loop_ghost (fun gm a w => ∃ i : Nat, ∃ v_a : Value, ∃ N_a : Hl, At 38 [(5, I i), (4, v_a), (3, (.bool false)), (2, (.slice none 0 0)), (0, v)] a ∧ HS [] w0 w ([N_a]) ∧ (Ow B8 5 v_a (wfs (p.take i)) N_a) ∧ (i ≤ p.length) ∧ (∀ x ∈ p.take i, x.length ≤ 500) ∧ ((wfs (p.take i)).length ≤ i * 517) ∧ gm = p.length - i) (p.length - (0)) ⟨0, nilV, [], hA.sub ⟨rfl, rfl, rfl, rfl, rfl, trivial⟩, hH, by exact Ow.nil B8 _, by omega, by (intro x hx; cases hx), by exact Nat.zero_le _, rfl⟩ ?_
    clear hA hH
    rintro gm a w ⟨i, v_a, N_a, hA, hH, hO_a, hi, h5, hwl, rfl⟩
    refine wp_seq_k fun K8 hK8 => ?_
    refine wp_seq_k fun K9 hK9 => ?_
    refine wp_region_lit ?_
    refine sq hA (q_move rfl) rfl fun a hA => ?_
    refine sq hA (q_move rfl) rfl fun a hA => ?_
    refine sq hA (q_len Tryd.underlying32 rfl (Rd.shp hvr)) rfl fun a hA => ?_
    refine sq hA (q_lssI rfl rfl) rfl fun a hA => ?_
    refine wpList_nil ?_
    refine hK9 _ _ ?_
    clear hK9
    refine cond_d hA rfl (fun hc14 => ?_) (fun hc14 => ?_)
    · skip
      refine wp_skip ?_
      refine hK8 _ _ ?_
      clear hK8
      refine wp_seq_k fun K10 hK10 => ?_
      refine wp_block ?_
      refine wp_seq_k fun K11 hK11 => ?_
      refine wp_seq_k fun K12 hK12 => ?_
      refine wp_region_lit ?_
      refine sq hA (q_move rfl) rfl fun a hA => ?_
      refine sq hA (q_move rfl) rfl fun a hA => ?_
      refine sq hA (q_idx1 (i) Tryd.underlying32 ti22 rfl rfl (by first | omega | rfl) (Rd.shp hvr) (by first | omega | (simp; done) | (simp; omega) | (rw [List.length_map]; assumption) | assumption | rfl | (simp [*]; done) | (simp [*]; omega))) rfl fun a hA => ?_
      refine sq hA (q_loadR Tryd.underlying22 rfl rfl (hH.rd hvr) (by first | omega | (simp; done) | (simp; omega) | (rw [List.length_map]; assumption) | assumption | rfl | (simp [*]; done) | (simp [*]; omega)) (getD_some' vs nilV (by first | omega | (simp; done) | (simp; omega) | (rw [List.length_map]; assumption) | assumption | rfl | (simp [*]; done) | (simp [*]; omega)))) rfl fun a hA => ?_
      refine sq hA (q_len Tryd.underlying22 rfl (Rd.shp (hvb (i) (by first | omega | (simp; done) | (simp; omega) | (rw [List.length_map]; assumption) | assumption | rfl | (simp [*]; done) | (simp [*]; omega))))) rfl fun a hA => ?_
      refine sq hA (q_gtrI (n := 500) rfl rfl) rfl fun a hA => ?_
      refine wpList_nil ?_
      refine hK12 _ _ ?_
      clear hK12
      refine cond_d hA rfl (fun hc22 => ?_) (fun hc22 => ?_)
      · skip
        refine wp_seq_k fun K13 hK13 => ?_
        refine wp_region_lit ?_
        refine sq hA (q_assign rfl) rfl fun a hA => ?_
        refine sq hA (q_assign rfl) rfl fun a hA => ?_
        refine wpList_nil ?_
        refine hK13 _ _ ?_
        clear hK13
        refine wp_ret ?_
        refine then_ret ?_
        refine block_ret ?_
        refine then_ret ?_
        refine then_ret ?_
        refine block_ret ?_
        refine then_ret ?_
        refine post_ret hA (res_2 rfl hA rfl rfl) ?_
        first
          | exact ⟨_, rfl, _, N_a, false, rfl, (fun h => by cases h), hH⟩
          | exact ⟨_, rfl, _, [], false, rfl, (fun h => by cases h), hH.nilFront⟩
          | obtain rfl : i = p.length := by omega
            rw [List.take_length] at hO_a h5 hwl
            exact ⟨_, rfl, v_a, N_a, true, rfl, fun _ => ⟨hO_a, by omega, h5, by omega⟩, hH⟩
      · skip
        have hq5 : (p.getD i []).length ≤ 500 := by omega
        obtain ⟨Q, hQ⟩ : ∃ Q, Q = wrapV ([] ++ p.getD i []) := ⟨_, rfl⟩
        have hQ1 : Q = (wf (p.getD i []), 0) := by rw [hQ]; exact wrapV_ok (by rw [List.nil_append]; omega)
        have hQ2 := wf_500 hq5
        refine wp_skip ?_
        refine hK11 _ _ ?_
        clear hK11
        refine wp_seq_k fun K14 hK14 => ?_
        refine wp_region_lit ?_
        refine sq hA (q_move rfl) rfl fun a hA => ?_
        refine sq hA (q_move rfl) rfl fun a hA => ?_
        refine sq hA (q_idx1 (i) Tryd.underlying32 ti22 rfl rfl (by first | omega | rfl) (Rd.shp hvr) (by first | omega | (simp; done) | (simp; omega) | (rw [List.length_map]; assumption) | assumption | rfl | (simp [*]; done) | (simp [*]; omega))) rfl fun a hA => ?_
        refine sq hA (q_loadR Tryd.underlying22 rfl rfl (hH.rd hvr) (by first | omega | (simp; done) | (simp; omega) | (rw [List.length_map]; assumption) | assumption | rfl | (simp [*]; done) | (simp [*]; omega)) (getD_some' vs nilV (by first | omega | (simp; done) | (simp; omega) | (rw [List.length_map]; assumption) | assumption | rfl | (simp [*]; done) | (simp [*]; omega)))) rfl fun a hA => ?_
        refine sl hA (lo_call fn15 rfl (own11_any _ _ (hH.rd (hvb (i) (by first | omega | (simp; done) | (simp; omega) | (rw [List.length_map]; assumption) | assumption | rfl | (simp [*]; done) | (simp [*]; omega)))) (by first | omega | (simp; done) | (simp; omega)))) rfl ?_
        rintro _ w ⟨v_t28, N_t28, rfl, hO_t28, hC⟩ a hA
        replace hH := HS.call0 hH hC
        clear hC
        refine sl hA (lo_call fn14 rfl (wrap_g (hg.mono0 hH) _ _ (Own.rd0 hO_t28 hH 0 rfl) (by first | omega | (simp; done) | (simp; omega)) (by assumption))) rfl ?_
        rintro _ w ⟨v_t29, N_t29, rfl, hO_t29, hC⟩ a hA
        replace hH := HS.call0 hH hC
        clear hC
        refine sq hA (q_move rfl) rfl fun a hA => ?_
        refine sq hA (q_extract rfl rfl) rfl fun a hA => ?_
        refine sq hA (q_extract rfl rfl) rfl fun a hA => ?_
        refine sq hA (q_assign rfl) rfl fun a hA => ?_
        refine sq hA (q_assign rfl) rfl fun a hA => ?_
        refine wpList_nil ?_
        refine hK14 _ _ ?_
        clear hK14
        refine wp_seq_k fun K15 hK15 => ?_
        refine wp_seq_k fun K16 hK16 => ?_
        refine wp_region_lit ?_
        refine sq hA (q_move rfl) rfl fun a hA => ?_
        refine sq hA (q_neqI (n := 0) rfl rfl) rfl fun a hA => ?_
        replace hA := hA.decF (by rw [hQ1]; simp)
        refine wpList_nil ?_
        refine hK16 _ _ ?_
        clear hK16
        refine cond_f hA rfl ?_
        refine wp_skip ?_
        refine hK15 _ _ ?_
        clear hK15
        refine wp_region_lit ?_
        refine sq hA (q_move rfl) rfl fun a hA => ?_
        refine sq hA (q_move rfl) rfl fun a hA => ?_
        replace hH := hH.pick [2, 0, 1] (Hs' := [_, _, _]) rfl
        refine sl hA (lo_appm hH Tryd.underlying22 Tryd.underlying22 (.inl rfl) ti5 rfl rfl rfl hO_a (Rd.src (Own.rd0 hO_t29 hH 1 rfl)) (one_B8 _) (by rw [hQ1]; simp only; omega) (by rw [hQ1]; simp only; omega)) rfl ?_
        clear hH; rintro v_t36 w ⟨N_t36, hO_t36, hH⟩ a hA
        refine sq hA (q_assign rfl) rfl fun a hA => ?_
        refine wpList_nil ?_
        refine block_normal ?_
        refine hK10 _ _ ?_
        clear hK10
        refine wp_region_lit ?_
        refine sq hA (q_move rfl) rfl fun a hA => ?_
        refine sq hA (q_addI (n := 1) rfl rfl (by omega)) rfl fun a hA => ?_
        refine sq hA (q_assign rfl) rfl fun a hA => ?_
        refine wpList_nil ?_
        replace hH := hH.pick [0] (Hs' := [_]) rfl
        exact ⟨_, by omega, i + 1, v_t36, N_t36, hA.sub ⟨rfl, rfl, rfl, rfl, rfl, trivial⟩, hH, by (rw [wfs_snoc _ (by omega)]; rw [hQ1] at hO_t36; exact hO_t36), by omega, by (intro x hx; rw [take_snoc (d := []) p (by omega), List.mem_append, List.mem_singleton] at hx; rcases hx with h | h; exact h5 x h; rw [h]; exact hq5), by (rw [wfs_snoc _ (by omega), List.length_append]; omega), rfl⟩
    · skip
      refine wp_exit ?_
      refine then_exit ?_
      refine then_exit ?_
      refine exit_here ?_
      refine hK6 _ _ ?_
      clear hK6
      replace hA := hA.sub (E' := [(4, _), (3, _), (2, _)]) ⟨rfl, rfl, rfl, trivial⟩
      refine wp_seq_k fun K17 hK17 => ?_
      refine wp_region_lit ?_
      refine sq hA (q_move rfl) rfl fun a hA => ?_
      refine sq hA (q_assign rfl) rfl fun a hA => ?_
      refine sq hA (q_assign rfl) rfl fun a hA => ?_
      refine wpList_nil ?_
      refine hK17 _ _ ?_
      clear hK17
      replace hA := hA.sub (E' := [(3, _), (2, _)]) ⟨rfl, rfl, trivial⟩
      refine wp_ret ?_
      refine post_ret hA (res_2 rfl hA rfl rfl) ?_
      first
        | exact ⟨_, rfl, _, N_a, false, rfl, (fun h => by cases h), hH⟩
        | exact ⟨_, rfl, _, [], false, rfl, (fun h => by cases h), hH.nilFront⟩
        | obtain rfl : i = p.length := by omega
          rw [List.take_length] at hO_a h5 hwl
          exact ⟨_, rfl, v_a, N_a, true, rfl, fun _ => ⟨hO_a, by omega, h5, by omega⟩, hH⟩

theorem frameBack_any {w0 : World} {lv : Nat} (hg : Gl lv w0) (v : Value) (p : List Bs) (hp : RdR [] w0 v p) (hpl0 : p.length ≤ 1048576) (u : Value) (q : Bs) (hu : By [] w0 u q) (hq : q.length ≤ 1048576) :
    Calls Tryd.prog 5 #[v, u] w0 (Ret fun r w' => r = .bool true ∧ HS [] w0 w' []) := by
  have hH := HS.start w0
  refine start (n := 79) (E := [(0, _), (1, _)]) Tryd.func5 rfl rfl rfl (args_look rfl) ?_
  intro a hA
  have hp' := hp
  obtain ⟨vs, hvl, hvr, hvb⟩ := hp'
  obtain ⟨K, hK⟩ : ∃ x, x = scanV (wfs p) := ⟨_, rfl⟩
  obtain ⟨J, hJ⟩ : ∃ x, x = scanV (wfs p ++ q) := ⟨_, rfl⟩
  refine wp_seq_k fun K1 hK1 => ?_
  refine wp_region_lit ?_
  refine sq hA (q_assign rfl) rfl fun a hA => ?_
  refine wpList_nil ?_
  refine hK1 _ _ ?_
  clear hK1
  refine wp_seq_k fun K2 hK2 => ?_
  refine wp_region_lit ?_
  refine sq hA (q_move rfl) rfl fun a hA => ?_
  refine sl hA (lo_call fn21 rfl (made_any (hg.mono0 hH) _ vs p hvl (hH.rd hvr) (fun i hi => hH.rd (hvb i hi)) hpl0)) rfl ?_
  rintro _ w ⟨v_t14, N_t14, B_t14, rfl, hM_t14, hC⟩ a hA
  replace hH := HS.call0 hH hC
  clear hC
  rcases hB : B_t14 with _ | _
  · skip
    rw [hB] at hA hM_t14
    refine sq hA (q_move rfl) rfl fun a hA => ?_
    refine sq hA (q_extract rfl rfl) rfl fun a hA => ?_
    refine sq hA (q_extract rfl rfl) rfl fun a hA => ?_
    refine sq hA (q_assign rfl) rfl fun a hA => ?_
    refine sq hA (q_assign rfl) rfl fun a hA => ?_
    refine wpList_nil ?_
    refine hK2 _ _ ?_
    clear hK2
    replace hA := hA.sub (E' := [(6, _), (5, _), (4, _), (0, _), (1, _)]) ⟨rfl, rfl, rfl, rfl, rfl, trivial⟩
    refine wp_seq_k fun K3 hK3 => ?_
    refine wp_seq_k fun K4 hK4 => ?_
    refine wp_region_lit ?_
    refine sq hA (q_move rfl) rfl fun a hA => ?_
    refine sq hA (q_not rfl) rfl fun a hA => ?_
    refine sq hA (q_move rfl) rfl fun a hA => ?_
    refine gs hA rfl rfl rfl rfl fun a hA => ?_
    refine gs hA rfl rfl rfl rfl fun a hA => ?_
    refine gs hA rfl rfl rfl rfl fun a hA => ?_
    refine sq hA (q_pick_t rfl rfl) rfl fun a hA => ?_
    refine wpList_nil ?_
    refine hK4 _ _ ?_
    clear hK4
    replace hA := hA.sub (E' := [(23, _), (5, _), (4, _), (0, _), (1, _)]) ⟨rfl, rfl, rfl, rfl, rfl, trivial⟩
    refine cond_t hA rfl ?_
    refine wp_seq_k fun K5 hK5 => ?_
    refine wp_region_lit ?_
    refine sl hA (lo_call fn13 rfl (awake11_any (hg.mono0 hH))) rfl ?_
    rintro _ w ⟨rfl, hC⟩ a hA
    replace hH := HS.call0 hH hC
    clear hC
    refine sq hA (q_assign rfl) rfl fun a hA => ?_
    refine wpList_nil ?_
    refine hK5 _ _ ?_
    clear hK5
    replace hA := hA.sub (E' := [(4, _), (5, _), (0, _), (1, _)]) ⟨rfl, rfl, rfl, rfl, trivial⟩
    refine wp_ret ?_
    refine then_ret ?_
    refine post_ret hA (res_1 rfl hA rfl) ?_
    replace hH := hH.pick [] (Hs' := []) rfl
    exact ⟨_, rfl, rfl, hH⟩
  · skip
    rw [hB] at hA hM_t14
    obtain ⟨hO_t14, hp40, hp5, hpw⟩ := hM_t14 rfl
    have hp2 : ∀ x ∈ p, x.length ≤ 262144 := fun x hx => Nat.le_trans (hp5 x hx) (by decide)
    have hp4 : ∀ x ∈ p, x.length ≤ 4194304 := fun x hx => Nat.le_trans (hp5 x hx) (by decide)
    obtain ⟨hb1, hb2, hb3⟩ := scanV_behind q hp2
    rw [← hJ] at hb1 hb2 hb3
    have hK1 := scanV_frames hp2
    rw [← hK] at hK1
    have hE1 : K.1 = p := by rw [hK1]
    have hE2 : K.2 = (wfs p).length := by rw [hK1]
    have hKl : K.1.length = p.length := by rw [hE1]
    have hKS : ∀ x ∈ K.1, x.length ≤ 4194304 := by rw [hE1]; exact hp4
    have hJt : (J.1.take p.length).length = p.length := by rw [hb2]
    have hJS : ∀ x ∈ J.1.take p.length, x.length ≤ 4194304 := by rw [hb2]; exact hp4
    have hJl : (wfs p ++ q).length = (wfs p).length + q.length := List.length_append
    have hJ2 : J.2 ≤ (wfs p ++ q).length := by rw [hJ]; exact scN_le _ _
    refine sq hA (q_move rfl) rfl fun a hA => ?_
    refine sq hA (q_extract rfl rfl) rfl fun a hA => ?_
    refine sq hA (q_extract rfl rfl) rfl fun a hA => ?_
    refine sq hA (q_assign rfl) rfl fun a hA => ?_
    refine sq hA (q_assign rfl) rfl fun a hA => ?_
    refine wpList_nil ?_
    refine hK2 _ _ ?_
    clear hK2
    replace hA := hA.sub (E' := [(6, _), (5, _), (4, _), (0, _), (1, _)]) ⟨rfl, rfl, rfl, rfl, rfl, trivial⟩
    refine wp_seq_k fun K6 hK6 => ?_
    refine wp_seq_k fun K7 hK7 => ?_
    refine wp_region_lit ?_
    refine sq hA (q_move rfl) rfl fun a hA => ?_
    refine sq hA (q_not rfl) rfl fun a hA => ?_
    refine sq hA (q_move rfl) rfl fun a hA => ?_
    refine gq hA rfl rfl (q_move rfl) rfl fun a hA => ?_
    refine gq hA rfl rfl (q_len Tryd.underlying22 rfl (Rd.shp hu)) rfl fun a hA => ?_
    refine gq hA rfl rfl (q_gtrI (n := 1000) rfl rfl) rfl fun a hA => ?_
    refine sq hA (q_pick_f rfl rfl) rfl fun a hA => ?_
    refine wpList_nil ?_
    refine hK7 _ _ ?_
    clear hK7
    replace hA := hA.sub (E' := [(23, _), (5, _), (4, _), (0, _), (1, _)]) ⟨rfl, rfl, rfl, rfl, rfl, trivial⟩
    refine cond_d hA rfl (fun hc23 => ?_) (fun hc23 => ?_)
    · skip
      refine wp_seq_k fun K8 hK8 => ?_
      refine wp_region_lit ?_
      refine sl hA (lo_call fn13 rfl (awake11_any (hg.mono0 hH))) rfl ?_
      rintro _ w ⟨rfl, hC⟩ a hA
      replace hH := HS.call0 hH hC
      clear hC
      refine sq hA (q_assign rfl) rfl fun a hA => ?_
      refine wpList_nil ?_
      refine hK8 _ _ ?_
      clear hK8
      replace hA := hA.sub (E' := [(4, _), (5, _), (0, _), (1, _)]) ⟨rfl, rfl, rfl, rfl, trivial⟩
      refine wp_ret ?_
      refine then_ret ?_
      refine post_ret hA (res_1 rfl hA rfl) ?_
      replace hH := hH.pick [] (Hs' := []) rfl
      exact ⟨_, rfl, rfl, hH⟩
    · skip
      refine wp_skip ?_
      refine hK6 _ _ ?_
      clear hK6
      replace hA := hA.sub (E' := [(5, _), (4, _), (0, _), (1, _)]) ⟨rfl, rfl, rfl, rfl, trivial⟩
      refine wp_seq_k fun K9 hK9 => ?_
      refine wp_region_lit ?_
      refine sq hA (q_move rfl) rfl fun a hA => ?_
      refine sl hA (lo_call fn15 rfl (own11_any _ _ (Own.rd0 hO_t14 hH 0 rfl) (by first | omega | (simp; done) | (simp; omega)))) rfl ?_
      rintro _ w ⟨v_t27, N_t27, rfl, hO_t27, hC⟩ a hA
      replace hH := HS.call0 hH hC
      clear hC
      refine sl hA (lo_call fn18 rfl (scan_g (hg.mono0 hH) _ _ (Own.rd0 hO_t27 hH 0 rfl) (by first | omega | (simp; done) | (simp; omega)) (by assumption))) rfl ?_
      rintro _ w ⟨v_t28, N_t28, N_dt28, rfl, hR_t28, hC⟩ a hA
      replace hH := HS.call0 hH hC
      clear hC
      refine sq hA (q_move rfl) rfl fun a hA => ?_
      refine sq hA (q_extract rfl rfl) rfl fun a hA => ?_
      refine sq hA (q_extract rfl rfl) rfl fun a hA => ?_
      refine sq hA (q_assign rfl) rfl fun a hA => ?_
      refine sq hA (q_assign rfl) rfl fun a hA => ?_
      refine wpList_nil ?_
      refine hK9 _ _ ?_
      clear hK9
      replace hA := hA.sub (E' := [(8, _), (7, _), (5, _), (4, _), (0, _), (1, _)]) ⟨rfl, rfl, rfl, rfl, rfl, rfl, trivial⟩
      refine wp_seq_k fun K10 hK10 => ?_
      refine wp_region_lit ?_
      refine sq hA (q_move rfl) rfl fun a hA => ?_
      refine sl hA (lo_call fn15 rfl (own11_any _ _ (Own.rd0 hO_t14 hH 3 rfl) (by first | omega | (simp; done) | (simp; omega)))) rfl ?_
      rintro _ w ⟨v_t32, N_t32, rfl, hO_t32, hC⟩ a hA
      replace hH := HS.call0 hH hC
      clear hC
      refine sq hA (q_move rfl) rfl fun a hA => ?_
      refine sl hA (lo_appm hH Tryd.underlying22 Tryd.underlying22 (.inl rfl) ti5 rfl rfl rfl hO_t32 (Rd.src (hH.rd hu)) (one_B8 _) (by first | omega | (simp; done) | (simp; omega)) (by first | omega | (simp; done) | (simp; omega))) rfl ?_
      clear hH; rintro v_t34 w ⟨N_t34, hO_t34, hH⟩ a hA
      refine sq hA (q_assign rfl) rfl fun a hA => ?_
      refine wpList_nil ?_
      refine hK10 _ _ ?_
      clear hK10
      replace hA := hA.sub (E' := [(9, _), (8, _), (7, _), (5, _), (4, _), (0, _)]) ⟨rfl, rfl, rfl, rfl, rfl, rfl, trivial⟩
      refine wp_seq_k fun K11 hK11 => ?_
      refine wp_region_lit ?_
      refine sq hA (q_move rfl) rfl fun a hA => ?_
      refine sl hA (lo_call fn18 rfl (scan_g (hg.mono0 hH) _ _ (Own.rd0 hO_t34 hH 0 rfl) (by first | omega | (simp; done) | (simp; omega)) (by assumption))) rfl ?_
      rintro _ w ⟨v_t37, N_t37, N_dt37, rfl, hR_t37, hC⟩ a hA
      replace hH := HS.call0 hH hC
      clear hC
      refine sq hA (q_move rfl) rfl fun a hA => ?_
      refine sq hA (q_extract rfl rfl) rfl fun a hA => ?_
      refine sq hA (q_extract rfl rfl) rfl fun a hA => ?_
      refine sq hA (q_assign rfl) rfl fun a hA => ?_
      refine sq hA (q_assign rfl) rfl fun a hA => ?_
      refine wpList_nil ?_
      refine hK11 _ _ ?_
      clear hK11
      replace hA := hA.sub (E' := [(11, _), (10, _), (9, _), (8, _), (7, _), (5, _), (4, _), (0, _)]) ⟨rfl, rfl, rfl, rfl, rfl, rfl, rfl, rfl, trivial⟩
      refine wp_seq_k fun K12 hK12 => ?_
      refine wp_region_lit ?_
      refine sq hA (q_move rfl) rfl fun a hA => ?_
      refine sq hA (q_move rfl) rfl fun a hA => ?_
      refine sl hA (lo_call fn20 rfl (sameR_any _ _ _ _ (RowsH.rdR hR_t28 hH 3 4 rfl rfl) (HS.rdR hH hp) (by first | omega | (simp; done) | (simp; omega)) (by first | omega | (simp; done) | (simp; omega)) (by assumption) (by assumption))) rfl ?_
      rintro _ w ⟨rfl, hC⟩ a hA
      replace hH := HS.call0 hH hC
      clear hC
      replace hA := hA.decT (by first | rfl | omega | assumption | (simp; done) | (simp [*]; done))
      refine sq hA (q_move rfl) rfl fun a hA => ?_
      refine gq hA rfl rfl (q_move rfl) rfl fun a hA => ?_
      refine gq hA rfl rfl (q_move rfl) rfl fun a hA => ?_
      refine gq hA rfl rfl (q_len Tryd.underlying22 rfl (Own.shp hO_t14)) rfl fun a hA => ?_
      refine gq hA rfl rfl (q_eqlI rfl rfl) rfl fun a hA => ?_
      refine sq hA (q_pick_t rfl rfl) rfl fun a hA => ?_
      replace hA := hA.decT (by first | rfl | omega | assumption | (simp; done) | (simp [*]; done))
      refine sq hA (q_move rfl) rfl fun a hA => ?_
      refine gq hA rfl rfl (q_move rfl) rfl fun a hA => ?_
      refine gq hA rfl rfl (q_len Tryd.underlying32 rfl (RowsH.shp hR_t37)) rfl fun a hA => ?_
      refine gq hA rfl rfl (q_move rfl) rfl fun a hA => ?_
      refine gq hA rfl rfl (q_len Tryd.underlying32 rfl (RdR.shp hp)) rfl fun a hA => ?_
      refine gq hA rfl rfl (q_geqI rfl rfl) rfl fun a hA => ?_
      replace hA := hA.decT (by omega)
      refine sq hA (q_pick_t rfl rfl) rfl fun a hA => ?_
      refine sq hA (q_move rfl) rfl fun a hA => ?_
      refine gq hA rfl rfl (q_move rfl) rfl fun a hA => ?_
      refine gq hA rfl rfl (q_move rfl) rfl fun a hA => ?_
      refine gq hA rfl rfl (q_len Tryd.underlying32 rfl (RdR.shp hp)) rfl fun a hA => ?_
      obtain ⟨v_t60, hv_t60, hO_t60⟩ := RdR.cut0 (RowsH.rdR hR_t37 hH 0 1 rfl rfl) (p.length) (by omega)
      refine gq hA rfl rfl (q_slice Tryd.underlying32 ti22 rfl (0) (p.length) hv_t60 (RowsH.shp hR_t37) rfl rfl rfl (by first | omega | rfl) (by omega) (by omega)) rfl fun a hA => ?_
      refine gq hA rfl rfl (q_move rfl) rfl fun a hA => ?_
      refine gl hA rfl rfl (lo_call fn20 rfl (sameR_any _ _ _ _ hO_t60 (HS.rdR hH hp) (by first | omega | (simp; done) | (simp; omega)) (by first | omega | (simp; done) | (simp; omega)) (by assumption) (by assumption))) rfl ?_
      rintro _ w ⟨rfl, hC⟩ a hA
      replace hH := HS.call0 hH hC
      clear hC
      refine sq hA (q_pick_t rfl rfl) rfl fun a hA => ?_
      replace hA := hA.decT (by exact hb2)
      refine sq hA (q_move rfl) rfl fun a hA => ?_
      refine gq hA rfl rfl (q_move rfl) rfl fun a hA => ?_
      refine gq hA rfl rfl (q_move rfl) rfl fun a hA => ?_
      refine gq hA rfl rfl (q_len Tryd.underlying22 rfl (Own.shp hO_t14)) rfl fun a hA => ?_
      refine gq hA rfl rfl (q_geqI rfl rfl) rfl fun a hA => ?_
      replace hA := hA.decT (by omega)
      refine sq hA (q_pick_t rfl rfl) rfl fun a hA => ?_
      refine sq hA (q_move rfl) rfl fun a hA => ?_
      refine gq hA rfl rfl (q_move rfl) rfl fun a hA => ?_
      refine gq hA rfl rfl (q_move rfl) rfl fun a hA => ?_
      refine gq hA rfl rfl (q_len Tryd.underlying22 rfl (Own.shp hO_t34)) rfl fun a hA => ?_
      refine gq hA rfl rfl (q_leqI rfl rfl) rfl fun a hA => ?_
      replace hA := hA.decT (by omega)
      refine sq hA (q_pick_t rfl rfl) rfl fun a hA => ?_
      refine sq hA (q_move rfl) rfl fun a hA => ?_
      refine gl hA rfl rfl (lo_call fn13 rfl (awake11_any (hg.mono0 hH))) rfl ?_
      rintro _ w ⟨rfl, hC⟩ a hA
      replace hH := HS.call0 hH hC
      clear hC
      refine sq hA (q_pick_t rfl rfl) rfl fun a hA => ?_
      refine sq hA (q_assign rfl) rfl fun a hA => ?_
      refine wpList_nil ?_
      refine hK12 _ _ ?_
      clear hK12
      replace hA := hA.sub (E' := [(4, _)]) ⟨rfl, trivial⟩
      refine wp_ret ?_
      refine post_ret hA (res_1 rfl hA rfl) ?_
      replace hH := hH.pick [] (Hs' := []) rfl
      exact ⟨_, rfl, rfl, hH⟩

theorem frameCuts_bad {w0 : World} {lv : Nat} (hg : Gl lv w0) (v : Value) (p : List Bs) (hp : RdR [] w0 v p) (hpl0 : p.length ≤ 1048576) (n : Int) (hn : n < 0) :
    Calls Tryd.prog 6 #[v, I n] w0 (Ret fun r w' => r = .bool true ∧ HS [] w0 w' []) := by
  have hH := HS.start w0
  refine start (n := 76) (E := [(0, _), (1, _)]) Tryd.func6 rfl rfl rfl (args_look rfl) ?_
  intro a hA
  have hp' := hp
  obtain ⟨vs, hvl, hvr, hvb⟩ := hp'
  refine wp_seq_k fun K1 hK1 => ?_
  refine wp_region_lit ?_
  refine sq hA (q_assign rfl) rfl fun a hA => ?_
  refine wpList_nil ?_
  refine hK1 _ _ ?_
  clear hK1
  refine wp_seq_k fun K2 hK2 => ?_
  refine wp_region_lit ?_
  refine sq hA (q_move rfl) rfl fun a hA => ?_
  refine sl hA (lo_call fn21 rfl (made_any (hg.mono0 hH) _ vs p hvl (hH.rd hvr) (fun i hi => hH.rd (hvb i hi)) hpl0)) rfl ?_
  rintro _ w ⟨v_t15, N_t15, B_t15, rfl, hM_t15, hC⟩ a hA
  replace hH := HS.call0 hH hC
  clear hC
  rcases hB : B_t15 with _ | _
  · skip
    rw [hB] at hA hM_t15
    refine sq hA (q_move rfl) rfl fun a hA => ?_
    refine sq hA (q_extract rfl rfl) rfl fun a hA => ?_
    refine sq hA (q_extract rfl rfl) rfl fun a hA => ?_
    refine sq hA (q_assign rfl) rfl fun a hA => ?_
    refine sq hA (q_assign rfl) rfl fun a hA => ?_
    refine wpList_nil ?_
    refine hK2 _ _ ?_
    clear hK2
    replace hA := hA.sub (E' := [(6, _), (5, _), (4, _), (0, _), (1, _)]) ⟨rfl, rfl, rfl, rfl, rfl, trivial⟩
    refine wp_seq_k fun K3 hK3 => ?_
    refine wp_seq_k fun K4 hK4 => ?_
    refine wp_region_lit ?_
    refine sq hA (q_move rfl) rfl fun a hA => ?_
    refine sq hA (q_not rfl) rfl fun a hA => ?_
    refine sq hA (q_move rfl) rfl fun a hA => ?_
    refine gs hA rfl rfl rfl rfl fun a hA => ?_
    refine gs hA rfl rfl rfl rfl fun a hA => ?_
    refine sq hA (q_pick_t rfl rfl) rfl fun a hA => ?_
    refine wpList_nil ?_
    refine hK4 _ _ ?_
    clear hK4
    replace hA := hA.sub (E' := [(23, _), (5, _), (4, _), (0, _), (1, _)]) ⟨rfl, rfl, rfl, rfl, rfl, trivial⟩
    refine cond_t hA rfl ?_
    refine wp_seq_k fun K5 hK5 => ?_
    refine wp_region_lit ?_
    refine sl hA (lo_call fn13 rfl (awake11_any (hg.mono0 hH))) rfl ?_
    rintro _ w ⟨rfl, hC⟩ a hA
    replace hH := HS.call0 hH hC
    clear hC
    refine sq hA (q_assign rfl) rfl fun a hA => ?_
    refine wpList_nil ?_
    refine hK5 _ _ ?_
    clear hK5
    replace hA := hA.sub (E' := [(4, _), (5, _), (0, _), (1, _)]) ⟨rfl, rfl, rfl, rfl, trivial⟩
    refine wp_ret ?_
    refine then_ret ?_
    refine post_ret hA (res_1 rfl hA rfl) ?_
    replace hH := hH.pick [] (Hs' := []) rfl
    exact ⟨_, rfl, rfl, hH⟩
  · skip
    rw [hB] at hA hM_t15
    obtain ⟨hO_t15, hp40, hp5, hpw⟩ := hM_t15 rfl
    have hp2 : ∀ x ∈ p, x.length ≤ 262144 := fun x hx => Nat.le_trans (hp5 x hx) (by decide)
    have hp4 : ∀ x ∈ p, x.length ≤ 4194304 := fun x hx => Nat.le_trans (hp5 x hx) (by decide)
    refine sq hA (q_move rfl) rfl fun a hA => ?_
    refine sq hA (q_extract rfl rfl) rfl fun a hA => ?_
    refine sq hA (q_extract rfl rfl) rfl fun a hA => ?_
    refine sq hA (q_assign rfl) rfl fun a hA => ?_
    refine sq hA (q_assign rfl) rfl fun a hA => ?_
    refine wpList_nil ?_
    refine hK2 _ _ ?_
    clear hK2
    replace hA := hA.sub (E' := [(6, _), (5, _), (4, _), (0, _), (1, _)]) ⟨rfl, rfl, rfl, rfl, rfl, trivial⟩
    refine wp_seq_k fun K6 hK6 => ?_
    refine wp_seq_k fun K7 hK7 => ?_
    refine wp_region_lit ?_
    refine sq hA (q_move rfl) rfl fun a hA => ?_
    refine sq hA (q_not rfl) rfl fun a hA => ?_
    refine sq hA (q_move rfl) rfl fun a hA => ?_
    refine gq hA rfl rfl (q_move rfl) rfl fun a hA => ?_
    refine gq hA rfl rfl (q_lssI (n := 0) rfl rfl) rfl fun a hA => ?_
    replace hA := hA.decT (by exact hn)
    refine sq hA (q_pick_f rfl rfl) rfl fun a hA => ?_
    refine wpList_nil ?_
    refine hK7 _ _ ?_
    clear hK7
    replace hA := hA.sub (E' := [(23, _), (5, _), (4, _), (0, _), (1, _)]) ⟨rfl, rfl, rfl, rfl, rfl, trivial⟩
    refine cond_t hA rfl ?_
    refine wp_seq_k fun K8 hK8 => ?_
    refine wp_region_lit ?_
    refine sl hA (lo_call fn13 rfl (awake11_any (hg.mono0 hH))) rfl ?_
    rintro _ w ⟨rfl, hC⟩ a hA
    replace hH := HS.call0 hH hC
    clear hC
    refine sq hA (q_assign rfl) rfl fun a hA => ?_
    refine wpList_nil ?_
    refine hK8 _ _ ?_
    clear hK8
    replace hA := hA.sub (E' := [(4, _), (5, _), (0, _), (1, _)]) ⟨rfl, rfl, rfl, rfl, trivial⟩
    refine wp_ret ?_
    refine then_ret ?_
    refine post_ret hA (res_1 rfl hA rfl) ?_
    replace hH := hH.pick [] (Hs' := []) rfl
    exact ⟨_, rfl, rfl, hH⟩

theorem frameCuts_ok {w0 : World} {lv : Nat} (hg : Gl lv w0) (v : Value) (p : List Bs) (hp : RdR [] w0 v p) (hpl0 : p.length ≤ 1048576) (n : Nat) (hn : (n : Int) ≤ 9223372036854775807) :
    Calls Tryd.prog 6 #[v, I n] w0 (Ret fun r w' => r = .bool true ∧ HS [] w0 w' []) := by
  have hH := HS.start w0
  refine start (n := 76) (E := [(0, _), (1, _)]) Tryd.func6 rfl rfl rfl (args_look rfl) ?_
  intro a hA
  have hp' := hp
  obtain ⟨vs, hvl, hvr, hvb⟩ := hp'
  obtain ⟨c, hc⟩ : ∃ c, c = n % ((wfs p).length + 1) := ⟨_, rfl⟩
  have hcl : c ≤ (wfs p).length := by rw [hc]; exact Nat.le_of_lt_succ (Nat.mod_lt _ (by omega))
  obtain ⟨K, hK⟩ : ∃ x, x = scanV ((wfs p).take c) := ⟨_, rfl⟩
  refine wp_seq_k fun K1 hK1 => ?_
  refine wp_region_lit ?_
  refine sq hA (q_assign rfl) rfl fun a hA => ?_
  refine wpList_nil ?_
  refine hK1 _ _ ?_
  clear hK1
  refine wp_seq_k fun K2 hK2 => ?_
  refine wp_region_lit ?_
  refine sq hA (q_move rfl) rfl fun a hA => ?_
  refine sl hA (lo_call fn21 rfl (made_any (hg.mono0 hH) _ vs p hvl (hH.rd hvr) (fun i hi => hH.rd (hvb i hi)) hpl0)) rfl ?_
  rintro _ w ⟨v_t15, N_t15, B_t15, rfl, hM_t15, hC⟩ a hA
  replace hH := HS.call0 hH hC
  clear hC
  rcases hB : B_t15 with _ | _
  · skip
    rw [hB] at hA hM_t15
    refine sq hA (q_move rfl) rfl fun a hA => ?_
    refine sq hA (q_extract rfl rfl) rfl fun a hA => ?_
    refine sq hA (q_extract rfl rfl) rfl fun a hA => ?_
    refine sq hA (q_assign rfl) rfl fun a hA => ?_
    refine sq hA (q_assign rfl) rfl fun a hA => ?_
    refine wpList_nil ?_
    refine hK2 _ _ ?_
    clear hK2
    replace hA := hA.sub (E' := [(6, _), (5, _), (4, _), (0, _), (1, _)]) ⟨rfl, rfl, rfl, rfl, rfl, trivial⟩
    refine wp_seq_k fun K3 hK3 => ?_
    refine wp_seq_k fun K4 hK4 => ?_
    refine wp_region_lit ?_
    refine sq hA (q_move rfl) rfl fun a hA => ?_
    refine sq hA (q_not rfl) rfl fun a hA => ?_
    refine sq hA (q_move rfl) rfl fun a hA => ?_
    refine gs hA rfl rfl rfl rfl fun a hA => ?_
    refine gs hA rfl rfl rfl rfl fun a hA => ?_
    refine sq hA (q_pick_t rfl rfl) rfl fun a hA => ?_
    refine wpList_nil ?_
    refine hK4 _ _ ?_
    clear hK4
    replace hA := hA.sub (E' := [(23, _), (5, _), (4, _), (0, _), (1, _)]) ⟨rfl, rfl, rfl, rfl, rfl, trivial⟩
    refine cond_t hA rfl ?_
    refine wp_seq_k fun K5 hK5 => ?_
    refine wp_region_lit ?_
    refine sl hA (lo_call fn13 rfl (awake11_any (hg.mono0 hH))) rfl ?_
    rintro _ w ⟨rfl, hC⟩ a hA
    replace hH := HS.call0 hH hC
    clear hC
    refine sq hA (q_assign rfl) rfl fun a hA => ?_
    refine wpList_nil ?_
    refine hK5 _ _ ?_
    clear hK5
    replace hA := hA.sub (E' := [(4, _), (5, _), (0, _), (1, _)]) ⟨rfl, rfl, rfl, rfl, trivial⟩
    refine wp_ret ?_
    refine then_ret ?_
    refine post_ret hA (res_1 rfl hA rfl) ?_
    replace hH := hH.pick [] (Hs' := []) rfl
    exact ⟨_, rfl, rfl, hH⟩
  · skip
    rw [hB] at hA hM_t15
    obtain ⟨hO_t15, hp40, hp5, hpw⟩ := hM_t15 rfl
    have hp2 : ∀ x ∈ p, x.length ≤ 262144 := fun x hx => Nat.le_trans (hp5 x hx) (by decide)
    have hp4 : ∀ x ∈ p, x.length ≤ 4194304 := fun x hx => Nat.le_trans (hp5 x hx) (by decide)
    have htl : ((wfs p).take c).length = c := by rw [List.length_take]; omega
    refine sq hA (q_move rfl) rfl fun a hA => ?_
    refine sq hA (q_extract rfl rfl) rfl fun a hA => ?_
    refine sq hA (q_extract rfl rfl) rfl fun a hA => ?_
    refine sq hA (q_assign rfl) rfl fun a hA => ?_
    refine sq hA (q_assign rfl) rfl fun a hA => ?_
    refine wpList_nil ?_
    refine hK2 _ _ ?_
    clear hK2
    replace hA := hA.sub (E' := [(6, _), (5, _), (4, _), (0, _), (1, _)]) ⟨rfl, rfl, rfl, rfl, rfl, trivial⟩
    refine wp_seq_k fun K6 hK6 => ?_
    refine wp_seq_k fun K7 hK7 => ?_
    refine wp_region_lit ?_
    refine sq hA (q_move rfl) rfl fun a hA => ?_
    refine sq hA (q_not rfl) rfl fun a hA => ?_
    refine sq hA (q_move rfl) rfl fun a hA => ?_
    refine gq hA rfl rfl (q_move rfl) rfl fun a hA => ?_
    refine gq hA rfl rfl (q_lssI (n := 0) rfl rfl) rfl fun a hA => ?_
    replace hA := hA.decF (by omega)
    refine sq hA (q_pick_f rfl rfl) rfl fun a hA => ?_
    refine wpList_nil ?_
    refine hK7 _ _ ?_
    clear hK7
    replace hA := hA.sub (E' := [(23, _), (5, _), (4, _), (0, _), (1, _)]) ⟨rfl, rfl, rfl, rfl, rfl, trivial⟩
    refine cond_f hA rfl ?_
    refine wp_skip ?_
    refine hK6 _ _ ?_
    clear hK6
    replace hA := hA.sub (E' := [(5, _), (4, _), (0, _), (1, _)]) ⟨rfl, rfl, rfl, rfl, trivial⟩
    refine wp_seq_k fun K8 hK8 => ?_
    refine wp_region_lit ?_
    refine sq hA (q_move rfl) rfl fun a hA => ?_
    refine sq hA (q_move rfl) rfl fun a hA => ?_
    refine sq hA (q_len Tryd.underlying22 rfl (Own.shp hO_t15)) rfl fun a hA => ?_
    refine sq hA (q_addI (n := 1) rfl rfl (by omega)) rfl fun a hA => ?_
    refine sq hA (q_remI rfl rfl (by omega)) rfl fun a hA => ?_
    rw [show ((n : Int) % (((wfs p).length : Int) + 1)) = ((c : Nat) : Int) by rw [hc]; rfl] at hA
    refine sq hA (q_assign rfl) rfl fun a hA => ?_
    refine wpList_nil ?_
    refine hK8 _ _ ?_
    clear hK8
    replace hA := hA.sub (E' := [(1, _), (5, _), (4, _), (0, _)]) ⟨rfl, rfl, rfl, rfl, trivial⟩
    refine wp_seq_k fun K9 hK9 => ?_
    refine wp_region_lit ?_
    refine sq hA (q_move rfl) rfl fun a hA => ?_
    refine sq hA (q_move rfl) rfl fun a hA => ?_
    obtain ⟨v_t33, hv_t33, hO_t33⟩ := Ow.cut0 hO_t15 (c) (by omega)
    refine sq hA (q_slice Tryd.underlying22 ti5 rfl (0) (c) hv_t33 (Own.shp hO_t15) rfl rfl (rfl) (rfl) (by omega) (by omega)) rfl fun a hA => ?_
    refine sl hA (lo_call fn15 rfl (own11_any _ _ (Own.rd0 hO_t33 hH 0 rfl) (by first | omega | (simp; done) | (simp; omega)))) rfl ?_
    rintro _ w ⟨v_t34, N_t34, rfl, hO_t34, hC⟩ a hA
    replace hH := HS.call0 hH hC
    clear hC
    refine sl hA (lo_call fn18 rfl (scan_g (hg.mono0 hH) _ _ (Own.rd0 hO_t34 hH 0 rfl) (by first | omega | (simp; done) | (simp; omega)) (by assumption))) rfl ?_
    rintro _ w ⟨v_t35, N_t35, N_dt35, rfl, hR_t35, hC⟩ a hA
    replace hH := HS.call0 hH hC
    clear hC
    refine sq hA (q_move rfl) rfl fun a hA => ?_
    refine sq hA (q_extract rfl rfl) rfl fun a hA => ?_
    refine sq hA (q_extract rfl rfl) rfl fun a hA => ?_
    refine sq hA (q_assign rfl) rfl fun a hA => ?_
    refine sq hA (q_assign rfl) rfl fun a hA => ?_
    refine wpList_nil ?_
    refine hK9 _ _ ?_
    clear hK9
    replace hA := hA.sub (E' := [(8, _), (7, _), (1, _), (4, _), (0, _)]) ⟨rfl, rfl, rfl, rfl, rfl, trivial⟩
    refine wp_seq_k fun K10 hK10 => ?_
    refine wp_region_lit ?_
    refine sq hA (q_assign rfl) rfl fun a hA => ?_
    refine sq hA (q_assign rfl) rfl fun a hA => ?_
    refine wpList_nil ?_
    refine hK10 _ _ ?_
    clear hK10
    refine wp_seq_k fun K11 hK11 => ?_
    refine wp_block ?_
    replace hH := HS.fold [_, _] [_, _] hH
    obtain ⟨NR12, hNR12, hH⟩ := hH
    refine wp_loop_ghost (fun gm a w => ∃ i : Nat, At 76 [(10, I (wfs (p.take i)).length), (9, I i), (8, I K.2), (7, v_t35), (1, I c), (4, (.bool false)), (0, v)] a ∧ HS [] w0 w ([N_t35, N_dt35, NR12]) ∧ (i ≤ p.length) ∧ ((wfs (p.take i)).length ≤ c) ∧ gm = p.length - i) (p.length - (0)) ⟨0, hA.sub ⟨rfl, rfl, rfl, rfl, rfl, rfl, rfl, trivial⟩, hH, by omega, by exact Nat.zero_le _, rfl⟩ ?_
    clear hA hH
    rintro gm a w ⟨i, hA, hH, hi, ha, rfl⟩
    refine wp_seq_k fun K13 hK13 => ?_
    refine wp_seq_k fun K14 hK14 => ?_
    refine wp_region_lit ?_
    refine sq hA (q_move rfl) rfl fun a hA => ?_
    refine sq hA (q_move rfl) rfl fun a hA => ?_
    refine sq hA (q_len Tryd.underlying32 rfl (RdR.shp hp)) rfl fun a hA => ?_
    refine sq hA (q_lssI rfl rfl) rfl fun a hA => ?_
    refine wpList_nil ?_
    refine hK14 _ _ ?_
    clear hK14
    refine cond_d hA rfl (fun hc41 => ?_) (fun hc41 => ?_)
    · skip
      refine wp_skip ?_
      refine hK13 _ _ ?_
      clear hK13
      refine wp_block ?_
      refine wp_seq_k fun K15 hK15 => ?_
      refine wp_region_lit ?_
      refine sq hA (q_move rfl) rfl fun a hA => ?_
      refine sq hA (q_move rfl) rfl fun a hA => ?_
      refine sq hA (q_idx1 (i) Tryd.underlying32 ti22 rfl rfl (by first | omega | rfl) (RdR.shp hp) (by first | omega | (simp; done) | (simp; omega) | (rw [List.length_map]; assumption) | assumption | rfl | (simp [*]; done) | (simp [*]; omega))) rfl fun a hA => ?_
      have hx_t46 := hp
      obtain ⟨vs_t46, hvl_t46, hvo_t46, hvr_t46⟩ := hx_t46
      refine sq hA (q_loadR Tryd.underlying22 rfl rfl (hH.rd hvo_t46) (by first | omega | (simp; done) | (simp; omega) | (rw [List.length_map]; assumption) | assumption | rfl | (simp [*]; done) | (simp [*]; omega)) (getD_some' vs_t46 nilV (by first | omega | (simp; done) | (simp; omega) | (rw [List.length_map]; assumption) | assumption | rfl | (simp [*]; done) | (simp [*]; omega)))) rfl fun a hA => ?_
      have hr5 := hp5 (p.getD i []) (getD_mem (by omega))
      obtain ⟨Q, hQ⟩ : ∃ Q, Q = wrapV (p.getD i []) := ⟨_, rfl⟩
      have hQ1 : Q = (wf (p.getD i []), 0) := by rw [hQ]; exact wrapV_ok (by omega)
      have hql : Q.1.length ≤ 262144 + 17 := by rw [hQ]; exact wrapV_len _
      refine sl hA (lo_call fn15 rfl (own11_any _ _ (hH.rd (hvr_t46 (i) (by first | omega | (simp; done) | (simp; omega) | (rw [List.length_map]; assumption) | assumption | rfl | (simp [*]; done) | (simp [*]; omega)))) (by first | omega | (simp; done) | (simp; omega)))) rfl ?_
      rintro _ w ⟨v_t47, N_t47, rfl, hO_t47, hC⟩ a hA
      replace hH := HS.call0 hH hC
      clear hC
      refine sl hA (lo_call fn14 rfl (wrap_g (hg.mono0 hH) _ _ (Own.rd0 hO_t47 hH 0 rfl) (by first | omega | (simp; done) | (simp; omega)) (by assumption))) rfl ?_
      rintro _ w ⟨v_t48, N_t48, rfl, hO_t48, hC⟩ a hA
      replace hH := HS.call0 hH hC
      clear hC
      refine sq hA (q_move rfl) rfl fun a hA => ?_
      refine sq hA (q_extract rfl rfl) rfl fun a hA => ?_
      refine sq hA (q_extract rfl rfl) rfl fun a hA => ?_
      refine sq hA (q_assign rfl) rfl fun a hA => ?_
      refine sq hA (q_assign rfl) rfl fun a hA => ?_
      refine wpList_nil ?_
      refine hK15 _ _ ?_
      clear hK15
      replace hA := hA.sub (E' := [(11, _), (50, _), (49, _), (42, _), (48, _), (47, _), (46, _), (45, _), (44, _), (43, _), (41, _), (40, _), (39, _), (38, _), (10, _), (9, _), (8, _), (7, _), (1, _), (4, _), (0, _)]) ⟨rfl, rfl, rfl, rfl, rfl, rfl, rfl, rfl, rfl, rfl, rfl, rfl, rfl, rfl, rfl, rfl, rfl, rfl, rfl, rfl, rfl, trivial⟩
      refine wp_seq_k fun K16 hK16 => ?_
      refine wp_seq_k fun K17 hK17 => ?_
      refine wp_region_lit ?_
      refine sq hA (q_move rfl) rfl fun a hA => ?_
      refine sq hA (q_len Tryd.underlying22 rfl (Own.shp hO_t48)) rfl fun a hA => ?_
      refine sq hA (q_move rfl) rfl fun a hA => ?_
      refine sq hA (q_move rfl) rfl fun a hA => ?_
      refine sq hA (q_subI rfl rfl (by omega)) rfl fun a hA => ?_
      refine sq hA (q_gtrI rfl rfl) rfl fun a hA => ?_
      refine wpList_nil ?_
      refine hK17 _ _ ?_
      clear hK17
      refine cond_d hA rfl (fun hc56 => ?_) (fun hc56 => ?_)
      · skip
        have hQ1' : wf (p.getD i []) = Q.1 := by rw [hQ1]
        have hK1 := scanV_cut hp2 (k := i) (c := c) (by omega) ha (.inr (by rw [hQ1']; omega)) hcl
        rw [← hK] at hK1
        have hE1 : K.1 = p.take i := by rw [hK1]
        have hE2 : K.2 = (wfs (p.take i)).length := by rw [hK1]
        have hKl : K.1.length ≤ p.length := by rw [hE1, List.length_take]; omega
        have hpS : ∀ x ∈ p.take i, x.length ≤ 4194304 := fun x hx => hp4 x (List.mem_of_mem_take hx)
        have hKS : ∀ x ∈ K.1, x.length ≤ 4194304 := by rw [hE1]; exact hpS
        refine wp_exit ?_
        refine then_exit ?_
        refine exit_out rfl ?_
        replace hH := HS.unfold [_, _, _, _] hNR12 hH
        refine then_exit ?_
        refine exit_here ?_
        refine hK11 _ _ ?_
        clear hK11
        replace hA := hA.sub (E' := [(10, _), (9, _), (8, _), (7, _), (4, _), (0, _)]) ⟨rfl, rfl, rfl, rfl, rfl, rfl, trivial⟩
        refine wp_seq_k fun K18 hK18 => ?_
        refine wp_region_lit ?_
        refine sq hA (q_move rfl) rfl fun a hA => ?_
        refine sq hA (q_move rfl) rfl fun a hA => ?_
        refine sq hA (q_move rfl) rfl fun a hA => ?_
        obtain ⟨v_t66, hv_t66, hO_t66⟩ := RdR.cut0 (HS.rdR hH hp) (i) (by omega)
        refine sq hA (q_slice Tryd.underlying32 ti22 rfl (0) (i) hv_t66 (RdR.shp hp) rfl rfl rfl (rfl) (by omega) (by omega)) rfl fun a hA => ?_
        refine sl hA (lo_call fn20 rfl (sameR_any _ _ _ _ (RowsH.rdR hR_t35 hH 2 3 rfl rfl) hO_t66 (by first | omega | (simp; done) | (simp; omega)) (by first | omega | (simp; done) | (simp; omega)) (by assumption) (by assumption))) rfl ?_
        rintro _ w ⟨rfl, hC⟩ a hA
        replace hH := HS.call0 hH hC
        clear hC
        replace hA := hA.decT (by first | rfl | omega | assumption | (simp; done) | (simp [*]; done))
        refine sq hA (q_move rfl) rfl fun a hA => ?_
        refine gq hA rfl rfl (q_move rfl) rfl fun a hA => ?_
        refine gq hA rfl rfl (q_move rfl) rfl fun a hA => ?_
        refine gq hA rfl rfl (q_eqlI rfl rfl) rfl fun a hA => ?_
        refine sq hA (q_pick_t rfl rfl) rfl fun a hA => ?_
        replace hA := hA.decT (by first | rfl | omega | assumption | (simp; done) | (simp [*]; done))
        refine sq hA (q_move rfl) rfl fun a hA => ?_
        refine gl hA rfl rfl (lo_call fn13 rfl (awake11_any (hg.mono0 hH))) rfl ?_
        rintro _ w ⟨rfl, hC⟩ a hA
        replace hH := HS.call0 hH hC
        clear hC
        refine sq hA (q_pick_t rfl rfl) rfl fun a hA => ?_
        refine sq hA (q_assign rfl) rfl fun a hA => ?_
        refine wpList_nil ?_
        refine hK18 _ _ ?_
        clear hK18
        replace hA := hA.sub (E' := [(4, _)]) ⟨rfl, trivial⟩
        refine wp_ret ?_
        refine post_ret hA (res_1 rfl hA rfl) ?_
        replace hH := hH.pick [] (Hs' := []) rfl
        exact ⟨_, rfl, rfl, hH⟩
      · skip
        have hQ1' : Q.1.length = (wf (p.getD i [])).length := by rw [hQ1]
        have hs_ := congrArg List.length (wfs_snoc p (i := i) (by omega))
        rw [List.length_append] at hs_
        refine wp_skip ?_
        refine hK16 _ _ ?_
        clear hK16
        refine wp_seq_k fun K19 hK19 => ?_
        refine wp_region_lit ?_
        refine sq hA (q_move rfl) rfl fun a hA => ?_
        refine sq hA (q_move rfl) rfl fun a hA => ?_
        refine sq hA (q_len Tryd.underlying22 rfl (Own.shp hO_t48)) rfl fun a hA => ?_
        refine sq hA (q_addI rfl rfl (by omega)) rfl fun a hA => ?_
        rw [show (((wfs (p.take i)).length : Int) + Q.1.length) = (((wfs (p.take (i + 1))).length : Nat) : Int) by omega] at hA
        refine sq hA (q_assign rfl) rfl fun a hA => ?_
        refine wpList_nil ?_
        refine hK19 _ _ ?_
        clear hK19
        refine wp_region_lit ?_
        refine sq hA (q_move rfl) rfl fun a hA => ?_
        refine sq hA (q_addI (n := 1) rfl rfl (by omega)) rfl fun a hA => ?_
        refine sq hA (q_assign rfl) rfl fun a hA => ?_
        refine wpList_nil ?_
        refine block_normal ?_
        replace hH := hH.pick [2, 3, 4, 0, 1] (Hs' := [_, _, _, _, _]) rfl
        replace hH := hH.pick [0, 1, 2] (Hs' := [_, _, _]) rfl
        exact ⟨_, by omega, i + 1, hA.sub ⟨rfl, rfl, rfl, rfl, rfl, rfl, rfl, trivial⟩, hH, by omega, by omega, rfl⟩
    · skip
      have hK1 := scanV_cut hp2 (k := i) (c := c) hi ha (.inl (by omega)) hcl
      rw [← hK] at hK1
      have hE1 : K.1 = p.take i := by rw [hK1]
      have hE2 : K.2 = (wfs (p.take i)).length := by rw [hK1]
      have hKl : K.1.length ≤ p.length := by rw [hE1, List.length_take]; omega
      have hpS : ∀ x ∈ p.take i, x.length ≤ 4194304 := fun x hx => hp4 x (List.mem_of_mem_take hx)
      have hKS : ∀ x ∈ K.1, x.length ≤ 4194304 := by rw [hE1]; exact hpS
      refine wp_exit ?_
      refine then_exit ?_
      replace hH := HS.unfold [_, _] hNR12 hH
      refine then_exit ?_
      refine exit_here ?_
      refine hK11 _ _ ?_
      clear hK11
      replace hA := hA.sub (E' := [(10, _), (9, _), (8, _), (7, _), (4, _), (0, _)]) ⟨rfl, rfl, rfl, rfl, rfl, rfl, trivial⟩
      refine wp_seq_k fun K20 hK20 => ?_
      refine wp_region_lit ?_
      refine sq hA (q_move rfl) rfl fun a hA => ?_
      refine sq hA (q_move rfl) rfl fun a hA => ?_
      refine sq hA (q_move rfl) rfl fun a hA => ?_
      obtain ⟨v_t66, hv_t66, hO_t66⟩ := RdR.cut0 (HS.rdR hH hp) (i) (by omega)
      refine sq hA (q_slice Tryd.underlying32 ti22 rfl (0) (i) hv_t66 (RdR.shp hp) rfl rfl rfl (rfl) (by omega) (by omega)) rfl fun a hA => ?_
      refine sl hA (lo_call fn20 rfl (sameR_any _ _ _ _ (RowsH.rdR hR_t35 hH 0 1 rfl rfl) hO_t66 (by first | omega | (simp; done) | (simp; omega)) (by first | omega | (simp; done) | (simp; omega)) (by assumption) (by assumption))) rfl ?_
      rintro _ w ⟨rfl, hC⟩ a hA
      replace hH := HS.call0 hH hC
      clear hC
      replace hA := hA.decT (by first | rfl | omega | assumption | (simp; done) | (simp [*]; done))
      refine sq hA (q_move rfl) rfl fun a hA => ?_
      refine gq hA rfl rfl (q_move rfl) rfl fun a hA => ?_
      refine gq hA rfl rfl (q_move rfl) rfl fun a hA => ?_
      refine gq hA rfl rfl (q_eqlI rfl rfl) rfl fun a hA => ?_
      refine sq hA (q_pick_t rfl rfl) rfl fun a hA => ?_
      replace hA := hA.decT (by first | rfl | omega | assumption | (simp; done) | (simp [*]; done))
      refine sq hA (q_move rfl) rfl fun a hA => ?_
      refine gl hA rfl rfl (lo_call fn13 rfl (awake11_any (hg.mono0 hH))) rfl ?_
      rintro _ w ⟨rfl, hC⟩ a hA
      replace hH := HS.call0 hH hC
      clear hC
      refine sq hA (q_pick_t rfl rfl) rfl fun a hA => ?_
      refine sq hA (q_assign rfl) rfl fun a hA => ?_
      refine wpList_nil ?_
      refine hK20 _ _ ?_
      clear hK20
      replace hA := hA.sub (E' := [(4, _)]) ⟨rfl, trivial⟩
      refine wp_ret ?_
      refine post_ret hA (res_1 rfl hA rfl) ?_
      replace hH := hH.pick [] (Hs' := []) rfl
      exact ⟨_, rfl, rfl, hH⟩

theorem frameCuts_any {w0 : World} {lv : Nat} (hg : Gl lv w0) (v : Value) (p : List Bs) (hp : RdR [] w0 v p) (hpl0 : p.length ≤ 1048576) (n : Int) (hn : n ≤ 9223372036854775807) : Calls Tryd.prog 6 #[v, I n] w0 (Ret fun r w' => r = .bool true ∧ HS [] w0 w' []) := by
  by_cases h : n < 0
  · exact frameCuts_bad hg v p hp hpl0 n h
  · obtain ⟨m, rfl⟩ : ∃ m : Nat, n = m := ⟨n.toNat, by omega⟩
    exact frameCuts_ok hg v p hp hpl0 m hn
end Go.Proofs.YtokcbfklogjnfaaDoor
