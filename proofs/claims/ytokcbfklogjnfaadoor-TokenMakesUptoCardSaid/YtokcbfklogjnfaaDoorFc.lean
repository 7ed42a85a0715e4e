/- Layer 17 (token): the laws of chapter 17. -/
import Derived.Test.YtokcbfklogjnfaaDoorFb
namespace Go.Proofs.YtokcbfklogjnfaaDoor
open Go
set_option linter.unusedVariables false
set_option linter.unusedSimpArgs false
set_option maxRecDepth 100000

theorem maket_g {w0 : World} {lv : Nat} (hg : Gl lv w0) (s : Bs) (hs : s.length = 32) (ts : List Int) (hts : ts.length = 6) {M : _} (hM : M = mkT s ts) : Calls Tryd.prog 26 #[(.agg ((s).map B8).toArray), (.agg ((ts).map I).toArray)] w0 (Ret fun r w' => ∃ v' N, r = .tuple #[v', I M.2] ∧ Ow B8 5 v' M.1 N ∧ HS [] w0 w' [N]) := by
  subst hM
  exact maket_any hg s hs ts hts
theorem refmaket_g {w0 : World} {lv : Nat} (hg : Gl (lv + 2) w0) (s : Bs) (hs : s.length = 32) (ts : List Int) (hts : ts.length = 6) {M : _} (hM : M = mkT s ts) : Calls Tryd.prog 28 #[(.agg ((s).map B8).toArray), (.agg ((ts).map I).toArray)] w0 (Ret fun r w' => ∃ v' N, r = .tuple #[v', I M.2] ∧ Ow B8 5 v' M.1 N ∧ HS [] w0 w' [N]) := by
  subst hM
  exact refmaket_any hg s hs ts hts
theorem checkt_g {w0 : World} {lv : Nat} (hg : Gl lv w0) (s : Bs) (hs : s.length = 32) (v : Value) (l : Bs) (hr : By [] w0 v l) (hl : l.length ≤ 1000000) {M : _} (hM : M = chkT s l) : Calls Tryd.prog 23 #[(.agg ((s).map B8).toArray), v] w0 (Ret fun r w' => r = .tuple #[.agg ((M.1.map I).toArray), I M.2] ∧ HS [] w0 w' []) := by
  subst hM
  exact checkt_any hg s hs v l hr hl
theorem refcheckt_g {w0 : World} {lv : Nat} (hg : Gl (lv + 2) w0) (s : Bs) (hs : s.length = 32) (v : Value) (l : Bs) (hr : By [] w0 v l) (hl : l.length ≤ 1000000) {M : _} (hM : M = chkT s l) : Calls Tryd.prog 25 #[(.agg ((s).map B8).toArray), v] w0 (Ret fun r w' => r = .tuple #[.agg ((M.1.map I).toArray), I M.2] ∧ HS [] w0 w' []) := by
  subst hM
  exact refcheckt_any hg s hs v l hr hl
theorem own17_any {w0 : World} (v : Value) (l : Bs) (hr : By [] w0 v l) (hl : l.length ≤ 1048576) :
    Calls Tryd.prog 24 #[v] w0 (Ret fun r w' => ∃ v' N, v' = r ∧ Ow B8 5 v' l N ∧ HS [] w0 w' [N]) := by
  have hH := HS.start w0
  refine start (n := 6) (E := [(0, _)]) Tryd.func24 rfl rfl rfl (args_look rfl) ?_
  intro a hA
  refine wp_seq_k fun K1 hK1 => ?_
  refine wp_region_lit ?_
  refine sq hA (q_assign rfl) rfl fun a hA => ?_
  refine wpList_nil ?_
  refine hK1 _ _ ?_
  clear hK1
  refine wp_seq_k fun K2 hK2 => ?_
  refine wp_region_lit ?_
  refine sl hA (lo_bs (f := B8) (e := 5) ([]) hH rfl rfl (fun w => by kernel_rfl)) rfl ?_
  clear hH; rintro v_t3 w ⟨N_t3, hO_t3, hH⟩ a hA
  refine sq hA (q_move rfl) rfl fun a hA => ?_
  refine sl hA (lo_appm hH Tryd.underlying22 Tryd.underlying22 (.inl rfl) ti5 rfl rfl rfl hO_t3 (Rd.src (hH.rd hr)) (one_B8 _) (by first | omega | (simp; done) | (simp; omega)) (by first | omega | (simp; done) | (simp; omega))) rfl ?_
  clear hH; rintro v_t5 w ⟨N_t5, hO_t5, hH⟩ a hA
  refine sq hA (q_assign rfl) rfl fun a hA => ?_
  refine wpList_nil ?_
  refine hK2 _ _ ?_
  clear hK2
  replace hA := hA.sub (E' := [(2, _)]) ⟨rfl, trivial⟩
  refine wp_ret ?_
  refine post_ret hA (res_1 rfl hA rfl) ?_
  exact ⟨_, rfl, v_t5, N_t5, rfl, hO_t5, hH⟩

theorem awt_r : RtT ([1, 0, 0, 0, 0, 0] : List Int) := by decide
theorem awake17_any {w0 : World} {lv : Nat} (hg : Gl lv w0)  :
    Calls Tryd.prog 22 #[] w0 (Ret fun r w' => r = .bool true ∧ HS [] w0 w' []) := by
  have hH := HS.start w0
  refine start (n := 39) (E := []) Tryd.func22 rfl rfl rfl (args_look rfl) ?_
  intro a hA
  obtain ⟨M, hM⟩ : ∃ x, x = mkT (List.replicate 32 0#8) ([1, 0, 0, 0, 0, 0] : List Int) := ⟨_, rfl⟩
  obtain ⟨C, hC⟩ : ∃ x, x = chkT (List.replicate 32 0#8) M.1 := ⟨_, rfl⟩
  have hmb : M.1.length = 39 := by rw [hM]; exact mkT_len awt_r
  have hck : C = (([1, 0, 0, 0, 0, 0] : List Int), 0) := by rw [hC, hM]; exact chkT_back awt_r rfl
  have hcl : C.1.length = 6 := by rw [hck]; rfl
  have hm2 : M.2 = 0 := by rw [hM, mkT_ok awt_r]
  have hm1 : M.1.getD 1 0#8 = 1#8 := by rw [hM, mkT_ok awt_r]; rfl
  refine wp_seq_k fun K1 hK1 => ?_
  refine wp_region_lit ?_
  refine sq hA (q_assign rfl) rfl fun a hA => ?_
  refine wpList_nil ?_
  refine hK1 _ _ ?_
  clear hK1
  refine wp_seq_k fun K2 hK2 => ?_
  refine wp_region_lit ?_
  refine sq hA (q_build (v := (.agg ((List.replicate 32 0#8).map B8).toArray)) (vs := []) rfl (fun w => by kernel_rfl)) rfl fun a hA => ?_
  refine sq hA (q_build (v := .agg (([1, 0, 0, 0, 0, 0] : List Int).map I).toArray) (vs := [(0, I 1)]) rfl (fun w => run_build w _ _ _ (by kernel_rfl))) rfl fun a hA => ?_
  refine sl hA (lo_call fn26 rfl (maket_g (hg.mono0 hH) _ (by first | assumption | (rw [List.length_map]; assumption) | rfl | exact sha_length _ | (simp; done) | (simp [*]; done) | omega) _ (by first | assumption | (rw [List.length_map]; assumption) | rfl | exact sha_length _ | (simp; done) | (simp [*]; done) | omega) (by assumption))) rfl ?_
  rintro _ w ⟨v_t8, N_t8, rfl, hO_t8, hC⟩ a hA
  replace hH := HS.call0 hH hC
  clear hC
  refine sq hA (q_move rfl) rfl fun a hA => ?_
  refine sq hA (q_extract rfl rfl) rfl fun a hA => ?_
  refine sq hA (q_extract rfl rfl) rfl fun a hA => ?_
  refine sq hA (q_assign rfl) rfl fun a hA => ?_
  refine sq hA (q_assign rfl) rfl fun a hA => ?_
  refine wpList_nil ?_
  refine hK2 _ _ ?_
  clear hK2
  replace hA := hA.sub (E' := [(2, _), (1, _), (0, _)]) ⟨rfl, rfl, rfl, trivial⟩
  refine wp_seq_k fun K3 hK3 => ?_
  refine wp_region_lit ?_
  refine sq hA (q_build (v := (.agg ((List.replicate 32 0#8).map B8).toArray)) (vs := []) rfl (fun w => by kernel_rfl)) rfl fun a hA => ?_
  refine sq hA (q_move rfl) rfl fun a hA => ?_
  refine sl hA (lo_call fn23 rfl (checkt_g (hg.mono0 hH) _ (by first | assumption | (rw [List.length_map]; assumption) | rfl | exact sha_length _ | (simp; done) | (simp [*]; done) | omega) _ _ (Own.rd0 hO_t8 hH 0 rfl) (by first | omega | (simp; done) | (simp; omega)) (by assumption))) rfl ?_
  rintro _ w ⟨rfl, hC⟩ a hA
  replace hH := HS.call0 hH hC
  clear hC
  refine sq hA (q_move rfl) rfl fun a hA => ?_
  refine sq hA (q_extract rfl rfl) rfl fun a hA => ?_
  refine sq hA (q_extract rfl rfl) rfl fun a hA => ?_
  refine sl hA (lo_allocA hH ti44) rfl ?_
  clear hH; rintro _ w ⟨b_t3, rfl, hH⟩ a hA
  replace hH : HS _ _ _ ([(b_t3, Obj.cells ((List.replicate 6 (0 : Int)).map I).toArray 44 (0, 0))] :: _) := hH
  refine s0 hA (lo_storeAm hH ti44 rfl rfl (by first | (simp; done) | (rw [List.length_map]; assumption) | rfl | (simp [*]; done)) (by first | (simp; done) | (rw [List.length_map]; assumption) | rfl | (simp [*]; done)) (one_I _)) ?_
  clear hH; rintro _ w hH
  refine sq hA (q_assign rfl) rfl fun a hA => ?_
  refine wpList_nil ?_
  refine hK3 _ _ ?_
  clear hK3
  replace hA := hA.sub (E' := [(4, _), (3, _), (2, _), (1, _), (0, _)]) ⟨rfl, rfl, rfl, rfl, rfl, trivial⟩
  refine wp_seq_k fun K4 hK4 => ?_
  refine wp_region_lit ?_
  refine sq hA (q_move rfl) rfl fun a hA => ?_
  refine sq hA (q_eqlI (n := 0) rfl rfl) rfl fun a hA => ?_
  replace hA := hA.decT (by rw [hm2]; rfl)
  refine sq hA (q_move rfl) rfl fun a hA => ?_
  refine gq hA rfl rfl (q_move rfl) rfl fun a hA => ?_
  refine gq hA rfl rfl (q_eqlI (n := 0) rfl rfl) rfl fun a hA => ?_
  refine sq hA (q_pick_t rfl rfl) rfl fun a hA => ?_
  replace hA := hA.decT (by rw [hck]; rfl)
  refine sq hA (q_move rfl) rfl fun a hA => ?_
  refine gq hA rfl rfl (q_move rfl) rfl fun a hA => ?_
  refine gq hA rfl rfl (q_len Tryd.underlying22 rfl (Own.shp hO_t8)) rfl fun a hA => ?_
  refine gq hA rfl rfl (q_eqlI (n := 39) rfl rfl) rfl fun a hA => ?_
  refine sq hA (q_pick_t rfl rfl) rfl fun a hA => ?_
  replace hA := hA.decT (by omega)
  refine sq hA (q_move rfl) rfl fun a hA => ?_
  refine gq hA rfl rfl (q_move rfl) rfl fun a hA => ?_
  refine gq hA rfl rfl (q_idx1 (1) Tryd.underlying22 ti5 rfl rfl (rfl) (Own.shp hO_t8) (by first | omega | (simp; done) | (simp; omega) | (rw [List.length_map]; assumption) | assumption | rfl | (simp [*]; done) | (simp [*]; omega))) rfl fun a hA => ?_
  refine gq hA rfl rfl (q_loadRm (0#8) Tryd.underlying5 rfl rfl (Own.rd0 hO_t8 hH 1 rfl) (by first | omega | (simp; done) | (simp; omega) | (rw [List.length_map]; assumption) | assumption | rfl | (simp [*]; done) | (simp [*]; omega))) rfl fun a hA => ?_
  refine gq hA rfl rfl (q_eql8 (q := 1#8) rfl rfl) rfl fun a hA => ?_
  refine sq hA (q_pick_t rfl rfl) rfl fun a hA => ?_
  replace hA := hA.decT (by exact hm1)
  refine sq hA (q_move rfl) rfl fun a hA => ?_
  refine gq hA rfl rfl (q_fld 0 Tryd.underlying44 rfl rfl ti3 rfl) rfl fun a hA => ?_
  refine gq hA rfl rfl (q_loadBm ((0 : Int)) hH 0 rfl Tryd.underlying3 rfl rfl (by first | omega | (simp; done) | (simp; omega) | (rw [List.length_map]; assumption) | assumption | rfl | (simp [*]; done) | (simp [*]; omega))) rfl fun a hA => ?_
  refine gq hA rfl rfl (q_eqlI (n := 1) rfl rfl) rfl fun a hA => ?_
  refine sq hA (q_pick_t rfl rfl) rfl fun a hA => ?_
  replace hA := hA.decT (by rw [hck]; rfl)
  refine sq hA (q_assign rfl) rfl fun a hA => ?_
  refine wpList_nil ?_
  refine hK4 _ _ ?_
  clear hK4
  replace hA := hA.sub (E' := [(0, _)]) ⟨rfl, trivial⟩
  refine wp_ret ?_
  refine post_ret hA (res_1 rfl hA rfl) ?_
  replace hH := hH.pick [] (Hs' := []) rfl
  exact ⟨_, rfl, rfl, hH⟩

theorem tokenMakes_any {w0 : World} (hg : Gl 2 w0) (s : Bs) (hs : s.length = 32) (ts : List Int) (hts : ts.length = 6) (n : Int) :
    Calls Tryd.prog 12 #[(.agg ((s).map B8).toArray), (.agg ((ts).map I).toArray), I n] w0 (Ret fun r w' => r = .bool true ∧ HS [] w0 w' []) := by
  have hH := HS.start w0
  refine start (n := 44) (E := [(0, _), (1, _), (2, _)]) Tryd.func12 rfl rfl rfl (args_look rfl) ?_
  intro a hA
  obtain ⟨M, hM⟩ : ∃ x, x = mkT s ts := ⟨_, rfl⟩
  have hmb : M.1.length ≤ 200 := by rw [hM]; exact mkT_bound hts
  refine wp_seq_k fun K1 hK1 => ?_
  refine wp_region_lit ?_
  refine sl hA (lo_boxA hH rfl) rfl ?_
  clear hH; rintro _ w ⟨b_t3, rfl, hH⟩ a hA
  refine sl hA (lo_boxA hH rfl) rfl ?_
  clear hH; rintro _ w ⟨b_t4, rfl, hH⟩ a hA
  refine sq hA (q_assign rfl) rfl fun a hA => ?_
  refine wpList_nil ?_
  refine hK1 _ _ ?_
  clear hK1
  replace hA := hA.sub (E' := [(6, _), (4, _), (3, _), (2, _)]) ⟨rfl, rfl, rfl, rfl, trivial⟩
  refine wp_seq_k fun K2 hK2 => ?_
  refine wp_region_lit ?_
  refine sq hA (q_loadW hH 1 rfl Tryd.underlying42 rfl ti42 rfl (by first | omega | (simp; done) | (simp; omega) | (rw [List.length_map]; assumption) | assumption | rfl | (simp [*]; done) | (simp [*]; omega))) rfl fun a hA => ?_
  refine sq hA (q_loadW hH 0 rfl Tryd.underlying44 rfl ti44 rfl (by first | omega | (simp; done) | (simp; omega) | (rw [List.length_map]; assumption) | assumption | rfl | (simp [*]; done) | (simp [*]; omega))) rfl fun a hA => ?_
  refine sl hA (lo_call fn26 rfl (maket_g (hg.mono0 hH) _ (by first | assumption | (rw [List.length_map]; assumption) | rfl | exact sha_length _ | (simp; done) | (simp [*]; done) | omega) _ (by first | assumption | (rw [List.length_map]; assumption) | rfl | exact sha_length _ | (simp; done) | (simp [*]; done) | omega) (by assumption))) rfl ?_
  rintro _ w ⟨v_t14, N_t14, rfl, hO_t14, hC⟩ a hA
  replace hH := HS.call0 hH hC
  clear hC
  refine sq hA (q_move rfl) rfl fun a hA => ?_
  refine sq hA (q_extract rfl rfl) rfl fun a hA => ?_
  refine sq hA (q_extract rfl rfl) rfl fun a hA => ?_
  refine sq hA (q_assign rfl) rfl fun a hA => ?_
  refine sq hA (q_assign rfl) rfl fun a hA => ?_
  refine wpList_nil ?_
  refine hK2 _ _ ?_
  clear hK2
  replace hA := hA.sub (E' := [(8, _), (7, _), (6, _), (4, _), (3, _), (2, _)]) ⟨rfl, rfl, rfl, rfl, rfl, rfl, trivial⟩
  refine wp_seq_k fun K3 hK3 => ?_
  refine wp_region_lit ?_
  refine sq hA (q_loadW hH 2 rfl Tryd.underlying42 rfl ti42 rfl (by first | omega | (simp; done) | (simp; omega) | (rw [List.length_map]; assumption) | assumption | rfl | (simp [*]; done) | (simp [*]; omega))) rfl fun a hA => ?_
  refine sq hA (q_loadW hH 1 rfl Tryd.underlying44 rfl ti44 rfl (by first | omega | (simp; done) | (simp; omega) | (rw [List.length_map]; assumption) | assumption | rfl | (simp [*]; done) | (simp [*]; omega))) rfl fun a hA => ?_
  refine sl hA (lo_call fn28 rfl (refmaket_g (hg.mono0 hH) _ (by first | assumption | (rw [List.length_map]; assumption) | rfl | exact sha_length _ | (simp; done) | (simp [*]; done) | omega) _ (by first | assumption | (rw [List.length_map]; assumption) | rfl | exact sha_length _ | (simp; done) | (simp [*]; done) | omega) (by assumption))) rfl ?_
  rintro _ w ⟨v_t20, N_t20, rfl, hO_t20, hC⟩ a hA
  replace hH := HS.call0 hH hC
  clear hC
  refine sq hA (q_move rfl) rfl fun a hA => ?_
  refine sq hA (q_extract rfl rfl) rfl fun a hA => ?_
  refine sq hA (q_extract rfl rfl) rfl fun a hA => ?_
  refine sq hA (q_assign rfl) rfl fun a hA => ?_
  refine sq hA (q_assign rfl) rfl fun a hA => ?_
  refine wpList_nil ?_
  refine hK3 _ _ ?_
  clear hK3
  replace hA := hA.sub (E' := [(10, _), (9, _), (8, _), (7, _), (6, _), (4, _), (2, _)]) ⟨rfl, rfl, rfl, rfl, rfl, rfl, rfl, trivial⟩
  refine wp_seq_k fun K4 hK4 => ?_
  refine any_go mixed (fun _ => true) hH ?_
  clear hH; intro w hH
  have hS := hH
  change wpK _ _ _ _ _ _ 22 #[false, false, false, false, false, false, false, false, false, false, false, false, false, false, false, false, false, false, false, false, false, false] _ _
  refine apq hA 0 rfl (by kernel_rfl) (by intro c a d v w h; cases d <;> exact h) (fun w => (q_move rfl)) rfl (listed' := #[true, false, false, false, false, false, false, false, false, false, false, false, false, false, false, false, false, false, false, false, false, false]) rfl fun a hA => ?_
  refine apq hA 1 rfl (by kernel_rfl) (by intro c a d v w h; cases d <;> exact h) (fun w => (q_move rfl)) rfl (listed' := #[true, true, false, false, false, false, false, false, false, false, false, false, false, false, false, false, false, false, false, false, false, false]) rfl fun a hA => ?_
  refine apq hA 2 rfl (by kernel_rfl) (by intro c a d v w h; cases d <;> exact h) (fun w => (q_eqlI rfl rfl)) rfl (listed' := #[true, true, true, false, false, false, false, false, false, false, false, false, false, false, false, false, false, false, false, false, false, false]) rfl fun a hA => ?_
  replace hA := hA.decT (by first | rfl | omega | assumption | (simp; done) | (simp [*]; done))
  refine apq hA 3 rfl (by kernel_rfl) (by intro c a d v w h; cases d <;> exact h) (fun w => (q_move rfl)) rfl (listed' := #[true, true, true, true, false, false, false, false, false, false, false, false, false, false, false, false, false, false, false, false, false, false]) rfl fun a hA => ?_
  refine apgq hA 4 rfl (by kernel_rfl) rfl rfl (by intro c a d v w h; cases d <;> exact h) (fun w => (q_move rfl)) rfl (listed' := #[true, true, true, true, true, false, false, false, false, false, false, false, false, false, false, false, false, false, false, false, false, false]) rfl fun a hA => ?_
  refine apgq hA 5 rfl (by kernel_rfl) rfl rfl (by intro c a d v w h; cases d <;> exact h) (fun w => (q_move rfl)) rfl (listed' := #[true, true, true, true, true, true, false, false, false, false, false, false, false, false, false, false, false, false, false, false, false, false]) rfl fun a hA => ?_
  refine agl hA 6 rfl (by kernel_rfl) rfl rfl (lo_call fn17 rfl (same_any _ _ _ _ (Own.rd0 hO_t14 hH 1 rfl) (Own.rd0 hO_t20 hH 0 rfl) (by first | omega | (simp; done) | (simp; omega)) (by first | omega | (simp; done) | (simp; omega)))) rfl (listed' := #[true, true, true, true, true, true, true, false, false, false, false, false, false, false, false, false, false, false, false, false, false, false]) rfl ?_
  rintro _ w ⟨rfl, hC⟩
  replace hH := HS.call0 hH hC
  clear hC
  have hS' := hH.pick [0, 1, 2, 3] (Hs' := [_, _, _, _]) rfl
  replace hS := hS'; clear hS'
  refine ⟨fun _ _ => hS, ?_⟩
  intro a hA
  refine apq hA 7 rfl (by kernel_rfl) (by intro c a d v w h; cases d <;> exact h) (fun w => (q_pick_t rfl rfl)) rfl (listed' := #[true, true, true, true, true, true, true, true, false, false, false, false, false, false, false, false, false, false, false, false, false, false]) rfl fun a hA => ?_
  replace hA := hA.decT (by first | rfl | omega | assumption | (simp; done) | (simp [*]; done))
  refine apq hA 8 rfl (by kernel_rfl) (by intro c a d v w h; cases d <;> exact h) (fun w => (q_move rfl)) rfl (listed' := #[true, true, true, true, true, true, true, true, true, false, false, false, false, false, false, false, false, false, false, false, false, false]) rfl fun a hA => ?_
  refine agq hA 9 rfl (by kernel_rfl) rfl rfl (by intro c a d v w h; cases d <;> exact h) hS (fun w hH => (q_loadW hH 2 rfl Tryd.underlying44 rfl ti44 rfl (by first | omega | (simp; done) | (simp; omega) | (rw [List.length_map]; assumption) | assumption | rfl | (simp [*]; done) | (simp [*]; omega)))) rfl (listed' := #[true, true, true, true, true, true, true, true, true, true, false, false, false, false, false, false, false, false, false, false, false, false]) rfl fun a hA => ?_
  refine apgq hA 10 rfl (by kernel_rfl) rfl rfl (by intro c a d v w h; cases d <;> exact h) (fun w => (q_move rfl)) rfl (listed' := #[true, true, true, true, true, true, true, true, true, true, true, false, false, false, false, false, false, false, false, false, false, false]) rfl fun a hA => ?_
  refine apgq hA 12 rfl (by kernel_rfl) rfl rfl (by intro c a d v w h; cases d <;> exact h) (fun w => (q_move rfl)) rfl (listed' := #[true, true, true, true, true, true, true, true, true, true, true, false, true, false, false, false, false, false, false, false, false, false]) rfl fun a hA => ?_
  refine apgq hA 13 rfl (by kernel_rfl) rfl rfl (by intro c a d v w h; cases d <;> exact h) (fun w => (q_fld 5 Tryd.underlying44 rfl rfl ti3 rfl)) rfl (listed' := #[true, true, true, true, true, true, true, true, true, true, true, false, true, true, false, false, false, false, false, false, false, false]) rfl fun a hA => ?_
  refine agq hA 14 rfl (by kernel_rfl) rfl rfl (by intro c a d v w h; cases d <;> exact h) hS (fun w hH => (q_loadBm ((0 : Int)) hH 2 rfl Tryd.underlying3 rfl rfl (by first | omega | (simp; done) | (simp; omega) | (rw [List.length_map]; assumption) | assumption | rfl | (simp [*]; done) | (simp [*]; omega)))) rfl (listed' := #[true, true, true, true, true, true, true, true, true, true, true, false, true, true, true, false, false, false, false, false, false, false]) rfl fun a hA => ?_
  refine apgq hA 15 rfl (by kernel_rfl) rfl rfl (by intro c a d v w h; cases d <;> exact h) (fun w => (q_lssI rfl rfl)) rfl (listed' := #[true, true, true, true, true, true, true, true, true, true, true, false, true, true, true, true, false, false, false, false, false, false]) rfl fun a hA => ?_
  refine agl hA 11 rfl (by kernel_rfl) rfl rfl (lo_call fn29 rfl (live_any _ (by first | assumption | (rw [List.length_map]; assumption) | rfl | exact sha_length _ | (simp; done) | (simp [*]; done) | omega) _)) rfl (listed' := #[true, true, true, true, true, true, true, true, true, true, true, true, true, true, true, true, false, false, false, false, false, false]) rfl ?_
  rintro _ w ⟨rfl, hC⟩
  replace hH := HS.call0 hH hC
  clear hC
  have hS' := hH.pick [0, 1, 2, 3] (Hs' := [_, _, _, _]) rfl
  replace hS := hS'; clear hS'
  refine ⟨fun _ _ => hS, ?_⟩
  intro a hA
  refine apgq hA 16 rfl (by kernel_rfl) rfl rfl (by intro c a d v w h; cases d <;> exact h) (fun w => (q_eqlB Tryd.underlying4 rfl rfl)) rfl (listed' := #[true, true, true, true, true, true, true, true, true, true, true, true, true, true, true, true, true, false, false, false, false, false]) rfl fun a hA => ?_
  refine apq hA 17 rfl (by kernel_rfl) (by intro c a d v w h; cases d <;> exact h) (fun w => (q_pick_t rfl rfl)) rfl (listed' := #[true, true, true, true, true, true, true, true, true, true, true, true, true, true, true, true, true, true, false, false, false, false]) rfl fun a hA => ?_
  replace hA := hA.decT (by first | rfl | omega | assumption | (simp; done) | (simp [*]; done))
  refine apq hA 18 rfl (by kernel_rfl) (by intro c a d v w h; cases d <;> exact h) (fun w => (q_move rfl)) rfl (listed' := #[true, true, true, true, true, true, true, true, true, true, true, true, true, true, true, true, true, true, true, false, false, false]) rfl fun a hA => ?_
  refine agl hA 19 rfl (by kernel_rfl) rfl rfl (lo_call fn22 rfl (awake17_any (hg.mono0 hH))) rfl (listed' := #[true, true, true, true, true, true, true, true, true, true, true, true, true, true, true, true, true, true, true, true, false, false]) rfl ?_
  rintro _ w ⟨rfl, hC⟩
  replace hH := HS.call0 hH hC
  clear hC
  have hS' := hH.pick [0, 1, 2, 3] (Hs' := [_, _, _, _]) rfl
  replace hS := hS'; clear hS'
  refine ⟨fun _ _ => hS, ?_⟩
  intro a hA
  refine apq hA 20 rfl (by kernel_rfl) (by intro c a d v w h; cases d <;> exact h) (fun w => (q_pick_t rfl rfl)) rfl (listed' := #[true, true, true, true, true, true, true, true, true, true, true, true, true, true, true, true, true, true, true, true, true, false]) rfl fun a hA => ?_
  refine apq hA 21 rfl (by kernel_rfl) (by intro c a d v w h; cases d <;> exact h) (fun w => (q_assign rfl)) rfl (listed' := #[true, true, true, true, true, true, true, true, true, true, true, true, true, true, true, true, true, true, true, true, true, true]) rfl fun a hA => ?_
  refine a_end (by kernel_rfl) ?_ _
  refine hK4 _ _ ?_
  clear hK4
  replace hA := hA.sub (E' := [(6, _)]) ⟨rfl, trivial⟩
  refine wp_ret ?_
  refine post_ret hA (res_1 rfl hA rfl) ?_
  replace hH := hH.pick [] (Hs' := []) rfl
  exact ⟨_, rfl, rfl, hH⟩

theorem tokenChecks_any {w0 : World} (hg : Gl 2 w0) (s : Bs) (hs : s.length = 32) (v : Value) (l : Bs) (hr : By [] w0 v l) (hl : l.length ≤ 1048576) :
    Calls Tryd.prog 8 #[(.agg ((s).map B8).toArray), v] w0 (Ret fun r w' => r = .bool true ∧ HS [] w0 w' []) := by
  have hH := HS.start w0
  refine start (n := 37) (E := [(0, _), (1, _)]) Tryd.func8 rfl rfl rfl (args_look rfl) ?_
  intro a hA
  obtain ⟨C, hC⟩ : ∃ x, x = chkT s ([] ++ l) := ⟨_, rfl⟩
  have hC2 : C = chkT s l := hC
  have hcl : C.1.length = 6 := by rw [hC]; exact chkT_length _ _
  refine wp_seq_k fun K1 hK1 => ?_
  refine wp_region_lit ?_
  refine sl hA (lo_boxA hH rfl) rfl ?_
  clear hH; rintro _ w ⟨b_t2, rfl, hH⟩ a hA
  refine sq hA (q_assign rfl) rfl fun a hA => ?_
  refine wpList_nil ?_
  refine hK1 _ _ ?_
  clear hK1
  replace hA := hA.sub (E' := [(4, _), (2, _), (1, _)]) ⟨rfl, rfl, rfl, trivial⟩
  refine wp_seq_k fun K2 hK2 => ?_
  refine wp_seq_k fun K3 hK3 => ?_
  refine wp_region_lit ?_
  refine sq hA (q_move rfl) rfl fun a hA => ?_
  refine sq hA (q_len Tryd.underlying22 rfl (Rd.shp hr)) rfl fun a hA => ?_
  refine sq hA (q_gtrI (n := 500) rfl rfl) rfl fun a hA => ?_
  refine wpList_nil ?_
  refine hK3 _ _ ?_
  clear hK3
  replace hA := hA.sub (E' := [(11, _), (4, _), (2, _), (1, _)]) ⟨rfl, rfl, rfl, rfl, trivial⟩
  refine cond_d hA rfl (fun hc11 => ?_) (fun hc11 => ?_)
  · skip
    refine wp_seq_k fun K4 hK4 => ?_
    refine wp_region_lit ?_
    refine sl hA (lo_call fn22 rfl (awake17_any (hg.mono0 hH))) rfl ?_
    rintro _ w ⟨rfl, hC⟩ a hA
    replace hH := HS.call0 hH hC
    clear hC
    refine sq hA (q_assign rfl) rfl fun a hA => ?_
    refine wpList_nil ?_
    refine hK4 _ _ ?_
    clear hK4
    replace hA := hA.sub (E' := [(4, _), (2, _), (1, _)]) ⟨rfl, rfl, rfl, trivial⟩
    refine wp_ret ?_
    refine then_ret ?_
    refine post_ret hA (res_1 rfl hA rfl) ?_
    replace hH := hH.pick [] (Hs' := []) rfl
    exact ⟨_, rfl, rfl, hH⟩
  · skip
    refine wp_skip ?_
    refine hK2 _ _ ?_
    clear hK2
    replace hA := hA.sub (E' := [(4, _), (2, _), (1, _)]) ⟨rfl, rfl, rfl, trivial⟩
    refine wp_seq_k fun K5 hK5 => ?_
    refine any_go mixed (fun j => !(Nat.beq j 3 || Nat.beq j 8)) hH ?_
    clear hH; intro w hH
    have hS := hH
    change wpK _ _ _ _ _ _ 10 #[false, false, false, false, false, false, false, false, false, false] _ _
    refine aq hA 0 rfl (by kernel_rfl) (by intro c a d v w h; cases d <;> exact h) hS (fun w hH => (q_loadW hH 0 rfl Tryd.underlying42 rfl ti42 rfl (by first | omega | (simp; done) | (simp; omega) | (rw [List.length_map]; assumption) | assumption | rfl | (simp [*]; done) | (simp [*]; omega)))) rfl (listed' := #[true, false, false, false, false, false, false, false, false, false]) rfl fun a hA => ?_
    refine apq hA 1 rfl (by kernel_rfl) (by intro c a d v w h; cases d <;> exact h) (fun w => (q_move rfl)) rfl (listed' := #[true, true, false, false, false, false, false, false, false, false]) rfl fun a hA => ?_
    refine a_ch2 (i := 2) (j := 7) (by kernel_rfl) ?_ ?_
    · skip
      refine oneL hA 2 rfl (lo_call fn24 rfl (own17_any _ _ (hH.rd hr) (by first | omega | (simp; done) | (simp; omega)))) rfl (listed' := #[true, true, true, false, false, false, false, false, false, false]) rfl ?_
      rintro _ w ⟨v_t16, N_t16, rfl, hO_t16, hC⟩
      replace hH := HS.call0 hH hC
      clear hC
      have hS' := hH.pick [1] (Hs' := [_]) rfl
      replace hS := hS'; clear hS'
      refine ⟨fun _ _ => hS, ?_⟩
      intro a hA
      refine a_ch2 (i := 3) (j := 7) (by kernel_rfl) ?_ ?_
      · skip
        refine oneL hA 3 rfl (lo_call fn23 rfl (checkt_g (hg.mono0 hH) _ (by first | assumption | (rw [List.length_map]; assumption) | rfl | exact sha_length _ | (simp; done) | (simp [*]; done) | omega) _ _ (Own.rd0 hO_t16 hH 0 rfl) (by first | omega | (simp; done) | (simp; omega)) (by assumption))) rfl (listed' := #[true, true, true, true, false, false, false, false, false, false]) rfl ?_
        rintro _ w ⟨rfl, hC⟩
        replace hH := HS.call0 hH hC
        clear hC
        refine ⟨fun _ h => absurd h (by decide), ?_⟩
        intro a hA
        refine apq hA 4 rfl (by kernel_rfl) (by intro c a d v w h; cases d <;> exact h) (fun w => (q_move rfl)) rfl (listed' := #[true, true, true, true, true, false, false, false, false, false]) rfl fun a hA => ?_
        refine apq hA 5 rfl (by kernel_rfl) (by intro c a d v w h; cases d <;> exact h) (fun w => (q_extract rfl rfl)) rfl (listed' := #[true, true, true, true, true, true, false, false, false, false]) rfl fun a hA => ?_
        refine apq hA 6 rfl (by kernel_rfl) (by intro c a d v w h; cases d <;> exact h) (fun w => (q_extract rfl rfl)) rfl (listed' := #[true, true, true, true, true, true, true, false, false, false]) rfl fun a hA => ?_
        refine al hA 7 rfl (by kernel_rfl) (lo_allocA hH ti44) rfl (listed' := #[true, true, true, true, true, true, true, true, false, false]) rfl ?_
        clear hH; rintro _ w ⟨b_t5, rfl, hH⟩
        replace hH : HS _ _ _ ([(b_t5, Obj.cells ((List.replicate 6 (0 : Int)).map I).toArray 44 (0, 0))] :: _) := hH
        have hS' := hH.pick [2] (Hs' := [_]) rfl
        replace hS := hS'; clear hS'
        refine ⟨fun _ _ => hS, ?_⟩
        intro a hA
        refine al0 hA 8 rfl (by kernel_rfl) (lo_storeAm hH ti44 rfl rfl (by first | (simp; done) | (rw [List.length_map]; assumption) | rfl | (simp [*]; done)) (by first | (simp; done) | (rw [List.length_map]; assumption) | rfl | (simp [*]; done)) (one_I _)) (listed' := #[true, true, true, true, true, true, true, true, true, false]) rfl ?_
        clear hH; rintro _ w hH
        refine ⟨fun _ h => absurd h (by decide), ?_⟩
        refine apq hA 9 rfl (by kernel_rfl) (by intro c a d v w h; cases d <;> exact h) (fun w => (q_assign rfl)) rfl (listed' := #[true, true, true, true, true, true, true, true, true, true]) rfl fun a hA => ?_
        refine a_end (by kernel_rfl) ?_ _
        refine hK5 _ _ ?_
        clear hK5
        replace hA := hA.sub (E' := [(6, _), (5, _), (4, _), (2, _), (1, _)]) ⟨rfl, rfl, rfl, rfl, rfl, trivial⟩
        refine wp_seq_k fun K6 hK6 => ?_
        refine wp_region_lit ?_
        refine sq hA (q_loadW hH 2 rfl Tryd.underlying42 rfl ti42 rfl (by first | omega | (simp; done) | (simp; omega) | (rw [List.length_map]; assumption) | assumption | rfl | (simp [*]; done) | (simp [*]; omega))) rfl fun a hA => ?_
        refine sq hA (q_move rfl) rfl fun a hA => ?_
        refine sl hA (lo_call fn25 rfl (refcheckt_g (hg.mono0 hH) _ (by first | assumption | (rw [List.length_map]; assumption) | rfl | exact sha_length _ | (simp; done) | (simp [*]; done) | omega) _ _ (hH.rd hr) (by first | omega | (simp; done) | (simp; omega)) (by assumption))) rfl ?_
        rintro _ w ⟨rfl, hC⟩ a hA
        replace hH := HS.call0 hH hC
        clear hC
        refine sq hA (q_move rfl) rfl fun a hA => ?_
        refine sq hA (q_extract rfl rfl) rfl fun a hA => ?_
        refine sq hA (q_extract rfl rfl) rfl fun a hA => ?_
        refine sl hA (lo_allocA hH ti44) rfl ?_
        clear hH; rintro _ w ⟨b_t7, rfl, hH⟩ a hA
        replace hH : HS _ _ _ ([(b_t7, Obj.cells ((List.replicate 6 (0 : Int)).map I).toArray 44 (0, 0))] :: _) := hH
        refine s0 hA (lo_storeAm hH ti44 rfl rfl (by first | (simp; done) | (rw [List.length_map]; assumption) | rfl | (simp [*]; done)) (by first | (simp; done) | (rw [List.length_map]; assumption) | rfl | (simp [*]; done)) (one_I _)) ?_
        clear hH; rintro _ w hH
        refine sq hA (q_assign rfl) rfl fun a hA => ?_
        refine wpList_nil ?_
        refine hK6 _ _ ?_
        clear hK6
        replace hA := hA.sub (E' := [(8, _), (7, _), (6, _), (5, _), (4, _)]) ⟨rfl, rfl, rfl, rfl, rfl, trivial⟩
        refine wp_seq_k fun K7 hK7 => ?_
        refine wp_region_lit ?_
        refine sq hA (q_loadW hH 1 rfl Tryd.underlying44 rfl ti44 rfl (by first | omega | (simp; done) | (simp; omega) | (rw [List.length_map]; assumption) | assumption | rfl | (simp [*]; done) | (simp [*]; omega))) rfl fun a hA => ?_
        refine sq hA (q_loadW hH 0 rfl Tryd.underlying44 rfl ti44 rfl (by first | omega | (simp; done) | (simp; omega) | (rw [List.length_map]; assumption) | assumption | rfl | (simp [*]; done) | (simp [*]; omega))) rfl fun a hA => ?_
        refine sq hA (q_eqlS (n := 6) ⟨Tryd.underlying44, by kernel_rfl, by kernel_rfl, by kernel_rfl, by kernel_rfl⟩ rfl rfl (by first | assumption | (rw [List.length_map]; assumption) | rfl | exact sha_length _ | (simp; done) | (simp [*]; done) | omega) (by first | assumption | (rw [List.length_map]; assumption) | rfl | exact sha_length _ | (simp; done) | (simp [*]; done) | omega)) rfl fun a hA => ?_
        replace hA := hA.decT (by first | rfl | omega | assumption | (simp; done) | (simp [*]; done))
        refine sq hA (q_move rfl) rfl fun a hA => ?_
        refine gq hA rfl rfl (q_move rfl) rfl fun a hA => ?_
        refine gq hA rfl rfl (q_move rfl) rfl fun a hA => ?_
        refine gq hA rfl rfl (q_eqlI rfl rfl) rfl fun a hA => ?_
        refine sq hA (q_pick_t rfl rfl) rfl fun a hA => ?_
        replace hA := hA.decT (by first | rfl | omega | assumption | (simp; done) | (simp [*]; done))
        refine sq hA (q_move rfl) rfl fun a hA => ?_
        refine gl hA rfl rfl (lo_call fn22 rfl (awake17_any (hg.mono0 hH))) rfl ?_
        rintro _ w ⟨rfl, hC⟩ a hA
        replace hH := HS.call0 hH hC
        clear hC
        refine sq hA (q_pick_t rfl rfl) rfl fun a hA => ?_
        refine sq hA (q_assign rfl) rfl fun a hA => ?_
        refine wpList_nil ?_
        refine hK7 _ _ ?_
        clear hK7
        replace hA := hA.sub (E' := [(4, _)]) ⟨rfl, trivial⟩
        refine wp_ret ?_
        refine post_ret hA (res_1 rfl hA rfl) ?_
        replace hH := hH.pick [] (Hs' := []) rfl
        exact ⟨_, rfl, rfl, hH⟩
      · skip
        refine oneL hA 7 rfl (lo_allocA hH ti44) rfl (listed' := #[true, true, true, false, false, false, false, true, false, false]) rfl ?_
        clear hH; rintro _ w ⟨b_t5, rfl, hH⟩
        replace hH : HS _ _ _ ([(b_t5, Obj.cells ((List.replicate 6 (0 : Int)).map I).toArray 44 (0, 0))] :: _) := hH
        have hS' := hH.pick [2] (Hs' := [_]) rfl
        replace hS := hS'; clear hS'
        refine ⟨fun _ _ => hS, ?_⟩
        intro a hA
        refine al hA 3 rfl (by kernel_rfl) (lo_call fn23 rfl (checkt_g (hg.mono0 hH) _ (by first | assumption | (rw [List.length_map]; assumption) | rfl | exact sha_length _ | (simp; done) | (simp [*]; done) | omega) _ _ (Own.rd0 hO_t16 hH 1 rfl) (by first | omega | (simp; done) | (simp; omega)) (by assumption))) rfl (listed' := #[true, true, true, true, false, false, false, true, false, false]) rfl ?_
        rintro _ w ⟨rfl, hC⟩
        replace hH := HS.call0 hH hC
        clear hC
        refine ⟨fun _ h => absurd h (by decide), ?_⟩
        intro a hA
        refine apq hA 4 rfl (by kernel_rfl) (by intro c a d v w h; cases d <;> exact h) (fun w => (q_move rfl)) rfl (listed' := #[true, true, true, true, true, false, false, true, false, false]) rfl fun a hA => ?_
        refine apq hA 5 rfl (by kernel_rfl) (by intro c a d v w h; cases d <;> exact h) (fun w => (q_extract rfl rfl)) rfl (listed' := #[true, true, true, true, true, true, false, true, false, false]) rfl fun a hA => ?_
        refine apq hA 6 rfl (by kernel_rfl) (by intro c a d v w h; cases d <;> exact h) (fun w => (q_extract rfl rfl)) rfl (listed' := #[true, true, true, true, true, true, true, true, false, false]) rfl fun a hA => ?_
        refine al0 hA 8 rfl (by kernel_rfl) (lo_storeAm hH ti44 rfl rfl (by first | (simp; done) | (rw [List.length_map]; assumption) | rfl | (simp [*]; done)) (by first | (simp; done) | (rw [List.length_map]; assumption) | rfl | (simp [*]; done)) (one_I _)) (listed' := #[true, true, true, true, true, true, true, true, true, false]) rfl ?_
        clear hH; rintro _ w hH
        refine ⟨fun _ h => absurd h (by decide), ?_⟩
        refine apq hA 9 rfl (by kernel_rfl) (by intro c a d v w h; cases d <;> exact h) (fun w => (q_assign rfl)) rfl (listed' := #[true, true, true, true, true, true, true, true, true, true]) rfl fun a hA => ?_
        refine a_end (by kernel_rfl) ?_ _
        refine hK5 _ _ ?_
        clear hK5
        replace hA := hA.sub (E' := [(6, _), (5, _), (4, _), (2, _), (1, _)]) ⟨rfl, rfl, rfl, rfl, rfl, trivial⟩
        refine wp_seq_k fun K8 hK8 => ?_
        refine wp_region_lit ?_
        refine sq hA (q_loadW hH 2 rfl Tryd.underlying42 rfl ti42 rfl (by first | omega | (simp; done) | (simp; omega) | (rw [List.length_map]; assumption) | assumption | rfl | (simp [*]; done) | (simp [*]; omega))) rfl fun a hA => ?_
        refine sq hA (q_move rfl) rfl fun a hA => ?_
        refine sl hA (lo_call fn25 rfl (refcheckt_g (hg.mono0 hH) _ (by first | assumption | (rw [List.length_map]; assumption) | rfl | exact sha_length _ | (simp; done) | (simp [*]; done) | omega) _ _ (hH.rd hr) (by first | omega | (simp; done) | (simp; omega)) (by assumption))) rfl ?_
        rintro _ w ⟨rfl, hC⟩ a hA
        replace hH := HS.call0 hH hC
        clear hC
        refine sq hA (q_move rfl) rfl fun a hA => ?_
        refine sq hA (q_extract rfl rfl) rfl fun a hA => ?_
        refine sq hA (q_extract rfl rfl) rfl fun a hA => ?_
        refine sl hA (lo_allocA hH ti44) rfl ?_
        clear hH; rintro _ w ⟨b_t7, rfl, hH⟩ a hA
        replace hH : HS _ _ _ ([(b_t7, Obj.cells ((List.replicate 6 (0 : Int)).map I).toArray 44 (0, 0))] :: _) := hH
        refine s0 hA (lo_storeAm hH ti44 rfl rfl (by first | (simp; done) | (rw [List.length_map]; assumption) | rfl | (simp [*]; done)) (by first | (simp; done) | (rw [List.length_map]; assumption) | rfl | (simp [*]; done)) (one_I _)) ?_
        clear hH; rintro _ w hH
        refine sq hA (q_assign rfl) rfl fun a hA => ?_
        refine wpList_nil ?_
        refine hK8 _ _ ?_
        clear hK8
        replace hA := hA.sub (E' := [(8, _), (7, _), (6, _), (5, _), (4, _)]) ⟨rfl, rfl, rfl, rfl, rfl, trivial⟩
        refine wp_seq_k fun K9 hK9 => ?_
        refine wp_region_lit ?_
        refine sq hA (q_loadW hH 1 rfl Tryd.underlying44 rfl ti44 rfl (by first | omega | (simp; done) | (simp; omega) | (rw [List.length_map]; assumption) | assumption | rfl | (simp [*]; done) | (simp [*]; omega))) rfl fun a hA => ?_
        refine sq hA (q_loadW hH 0 rfl Tryd.underlying44 rfl ti44 rfl (by first | omega | (simp; done) | (simp; omega) | (rw [List.length_map]; assumption) | assumption | rfl | (simp [*]; done) | (simp [*]; omega))) rfl fun a hA => ?_
        refine sq hA (q_eqlS (n := 6) ⟨Tryd.underlying44, by kernel_rfl, by kernel_rfl, by kernel_rfl, by kernel_rfl⟩ rfl rfl (by first | assumption | (rw [List.length_map]; assumption) | rfl | exact sha_length _ | (simp; done) | (simp [*]; done) | omega) (by first | assumption | (rw [List.length_map]; assumption) | rfl | exact sha_length _ | (simp; done) | (simp [*]; done) | omega)) rfl fun a hA => ?_
        replace hA := hA.decT (by first | rfl | omega | assumption | (simp; done) | (simp [*]; done))
        refine sq hA (q_move rfl) rfl fun a hA => ?_
        refine gq hA rfl rfl (q_move rfl) rfl fun a hA => ?_
        refine gq hA rfl rfl (q_move rfl) rfl fun a hA => ?_
        refine gq hA rfl rfl (q_eqlI rfl rfl) rfl fun a hA => ?_
        refine sq hA (q_pick_t rfl rfl) rfl fun a hA => ?_
        replace hA := hA.decT (by first | rfl | omega | assumption | (simp; done) | (simp [*]; done))
        refine sq hA (q_move rfl) rfl fun a hA => ?_
        refine gl hA rfl rfl (lo_call fn22 rfl (awake17_any (hg.mono0 hH))) rfl ?_
        rintro _ w ⟨rfl, hC⟩ a hA
        replace hH := HS.call0 hH hC
        clear hC
        refine sq hA (q_pick_t rfl rfl) rfl fun a hA => ?_
        refine sq hA (q_assign rfl) rfl fun a hA => ?_
        refine wpList_nil ?_
        refine hK9 _ _ ?_
        clear hK9
        replace hA := hA.sub (E' := [(4, _)]) ⟨rfl, trivial⟩
        refine wp_ret ?_
        refine post_ret hA (res_1 rfl hA rfl) ?_
        replace hH := hH.pick [] (Hs' := []) rfl
        exact ⟨_, rfl, rfl, hH⟩
    · skip
      refine oneL hA 7 rfl (lo_allocA hH ti44) rfl (listed' := #[true, true, false, false, false, false, false, true, false, false]) rfl ?_
      clear hH; rintro _ w ⟨b_t5, rfl, hH⟩
      replace hH : HS _ _ _ ([(b_t5, Obj.cells ((List.replicate 6 (0 : Int)).map I).toArray 44 (0, 0))] :: _) := hH
      have hS' := hH.pick [1] (Hs' := [_]) rfl
      replace hS := hS'; clear hS'
      refine ⟨fun _ _ => hS, ?_⟩
      intro a hA
      refine al hA 2 rfl (by kernel_rfl) (lo_call fn24 rfl (own17_any _ _ (hH.rd hr) (by first | omega | (simp; done) | (simp; omega)))) rfl (listed' := #[true, true, true, false, false, false, false, true, false, false]) rfl ?_
      rintro _ w ⟨v_t16, N_t16, rfl, hO_t16, hC⟩
      replace hH := HS.call0 hH hC
      clear hC
      have hS' := hH.pick [2] (Hs' := [_]) rfl
      replace hS := hS'; clear hS'
      refine ⟨fun _ _ => hS, ?_⟩
      intro a hA
      refine al hA 3 rfl (by kernel_rfl) (lo_call fn23 rfl (checkt_g (hg.mono0 hH) _ (by first | assumption | (rw [List.length_map]; assumption) | rfl | exact sha_length _ | (simp; done) | (simp [*]; done) | omega) _ _ (Own.rd0 hO_t16 hH 0 rfl) (by first | omega | (simp; done) | (simp; omega)) (by assumption))) rfl (listed' := #[true, true, true, true, false, false, false, true, false, false]) rfl ?_
      rintro _ w ⟨rfl, hC⟩
      replace hH := HS.call0 hH hC
      clear hC
      refine ⟨fun _ h => absurd h (by decide), ?_⟩
      intro a hA
      refine apq hA 4 rfl (by kernel_rfl) (by intro c a d v w h; cases d <;> exact h) (fun w => (q_move rfl)) rfl (listed' := #[true, true, true, true, true, false, false, true, false, false]) rfl fun a hA => ?_
      refine apq hA 5 rfl (by kernel_rfl) (by intro c a d v w h; cases d <;> exact h) (fun w => (q_extract rfl rfl)) rfl (listed' := #[true, true, true, true, true, true, false, true, false, false]) rfl fun a hA => ?_
      refine apq hA 6 rfl (by kernel_rfl) (by intro c a d v w h; cases d <;> exact h) (fun w => (q_extract rfl rfl)) rfl (listed' := #[true, true, true, true, true, true, true, true, false, false]) rfl fun a hA => ?_
      replace hH := hH.pick [1, 0, 2] (Hs' := [_, _, _]) rfl
      refine al0 hA 8 rfl (by kernel_rfl) (lo_storeAm hH ti44 rfl rfl (by first | (simp; done) | (rw [List.length_map]; assumption) | rfl | (simp [*]; done)) (by first | (simp; done) | (rw [List.length_map]; assumption) | rfl | (simp [*]; done)) (one_I _)) (listed' := #[true, true, true, true, true, true, true, true, true, false]) rfl ?_
      clear hH; rintro _ w hH
      refine ⟨fun _ h => absurd h (by decide), ?_⟩
      refine apq hA 9 rfl (by kernel_rfl) (by intro c a d v w h; cases d <;> exact h) (fun w => (q_assign rfl)) rfl (listed' := #[true, true, true, true, true, true, true, true, true, true]) rfl fun a hA => ?_
      refine a_end (by kernel_rfl) ?_ _
      refine hK5 _ _ ?_
      clear hK5
      replace hA := hA.sub (E' := [(6, _), (5, _), (4, _), (2, _), (1, _)]) ⟨rfl, rfl, rfl, rfl, rfl, trivial⟩
      refine wp_seq_k fun K10 hK10 => ?_
      refine wp_region_lit ?_
      refine sq hA (q_loadW hH 2 rfl Tryd.underlying42 rfl ti42 rfl (by first | omega | (simp; done) | (simp; omega) | (rw [List.length_map]; assumption) | assumption | rfl | (simp [*]; done) | (simp [*]; omega))) rfl fun a hA => ?_
      refine sq hA (q_move rfl) rfl fun a hA => ?_
      refine sl hA (lo_call fn25 rfl (refcheckt_g (hg.mono0 hH) _ (by first | assumption | (rw [List.length_map]; assumption) | rfl | exact sha_length _ | (simp; done) | (simp [*]; done) | omega) _ _ (hH.rd hr) (by first | omega | (simp; done) | (simp; omega)) (by assumption))) rfl ?_
      rintro _ w ⟨rfl, hC⟩ a hA
      replace hH := HS.call0 hH hC
      clear hC
      refine sq hA (q_move rfl) rfl fun a hA => ?_
      refine sq hA (q_extract rfl rfl) rfl fun a hA => ?_
      refine sq hA (q_extract rfl rfl) rfl fun a hA => ?_
      refine sl hA (lo_allocA hH ti44) rfl ?_
      clear hH; rintro _ w ⟨b_t7, rfl, hH⟩ a hA
      replace hH : HS _ _ _ ([(b_t7, Obj.cells ((List.replicate 6 (0 : Int)).map I).toArray 44 (0, 0))] :: _) := hH
      refine s0 hA (lo_storeAm hH ti44 rfl rfl (by first | (simp; done) | (rw [List.length_map]; assumption) | rfl | (simp [*]; done)) (by first | (simp; done) | (rw [List.length_map]; assumption) | rfl | (simp [*]; done)) (one_I _)) ?_
      clear hH; rintro _ w hH
      refine sq hA (q_assign rfl) rfl fun a hA => ?_
      refine wpList_nil ?_
      refine hK10 _ _ ?_
      clear hK10
      replace hA := hA.sub (E' := [(8, _), (7, _), (6, _), (5, _), (4, _)]) ⟨rfl, rfl, rfl, rfl, rfl, trivial⟩
      refine wp_seq_k fun K11 hK11 => ?_
      refine wp_region_lit ?_
      refine sq hA (q_loadW hH 1 rfl Tryd.underlying44 rfl ti44 rfl (by first | omega | (simp; done) | (simp; omega) | (rw [List.length_map]; assumption) | assumption | rfl | (simp [*]; done) | (simp [*]; omega))) rfl fun a hA => ?_
      refine sq hA (q_loadW hH 0 rfl Tryd.underlying44 rfl ti44 rfl (by first | omega | (simp; done) | (simp; omega) | (rw [List.length_map]; assumption) | assumption | rfl | (simp [*]; done) | (simp [*]; omega))) rfl fun a hA => ?_
      refine sq hA (q_eqlS (n := 6) ⟨Tryd.underlying44, by kernel_rfl, by kernel_rfl, by kernel_rfl, by kernel_rfl⟩ rfl rfl (by first | assumption | (rw [List.length_map]; assumption) | rfl | exact sha_length _ | (simp; done) | (simp [*]; done) | omega) (by first | assumption | (rw [List.length_map]; assumption) | rfl | exact sha_length _ | (simp; done) | (simp [*]; done) | omega)) rfl fun a hA => ?_
      replace hA := hA.decT (by first | rfl | omega | assumption | (simp; done) | (simp [*]; done))
      refine sq hA (q_move rfl) rfl fun a hA => ?_
      refine gq hA rfl rfl (q_move rfl) rfl fun a hA => ?_
      refine gq hA rfl rfl (q_move rfl) rfl fun a hA => ?_
      refine gq hA rfl rfl (q_eqlI rfl rfl) rfl fun a hA => ?_
      refine sq hA (q_pick_t rfl rfl) rfl fun a hA => ?_
      replace hA := hA.decT (by first | rfl | omega | assumption | (simp; done) | (simp [*]; done))
      refine sq hA (q_move rfl) rfl fun a hA => ?_
      refine gl hA rfl rfl (lo_call fn22 rfl (awake17_any (hg.mono0 hH))) rfl ?_
      rintro _ w ⟨rfl, hC⟩ a hA
      replace hH := HS.call0 hH hC
      clear hC
      refine sq hA (q_pick_t rfl rfl) rfl fun a hA => ?_
      refine sq hA (q_assign rfl) rfl fun a hA => ?_
      refine wpList_nil ?_
      refine hK11 _ _ ?_
      clear hK11
      replace hA := hA.sub (E' := [(4, _)]) ⟨rfl, trivial⟩
      refine wp_ret ?_
      refine post_ret hA (res_1 rfl hA rfl) ?_
      replace hH := hH.pick [] (Hs' := []) rfl
      exact ⟨_, rfl, rfl, hH⟩

theorem tokenBack_any {w0 : World} {lv : Nat} (hg : Gl lv w0) (s : Bs) (hs : s.length = 32) (ts : List Int) (hts : ts.length = 6) (v : Value) (l : Bs) (hr : By [] w0 v l) (hl : l.length ≤ 1048576) :
    Calls Tryd.prog 9 #[(.agg ((s).map B8).toArray), (.agg ((ts).map I).toArray), v] w0 (Ret fun r w' => r = .bool true ∧ HS [] w0 w' []) := by
  have hH := HS.start w0
  refine start (n := 74) (E := [(0, _), (1, _), (2, _)]) Tryd.func9 rfl rfl rfl (args_look rfl) ?_
  intro a hA
  obtain ⟨M, hM⟩ : ∃ x, x = mkT s ts := ⟨_, rfl⟩
  obtain ⟨C, hC⟩ : ∃ x, x = chkT s l := ⟨_, rfl⟩
  obtain ⟨D, hD⟩ : ∃ x, x = chkT s M.1 := ⟨_, rfl⟩
  obtain ⟨M2, hM2⟩ : ∃ x, x = mkT s C.1 := ⟨_, rfl⟩
  have hmb : M.1.length ≤ 200 := by rw [hM]; exact mkT_bound hts
  have hcl : C.1.length = 6 := by rw [hC]; exact chkT_length _ _
  have hcl2 : D.1.length = 6 := by rw [hD]; exact chkT_length _ _
  have hmb2 : M2.1.length ≤ 200 := by rw [hM2]; exact mkT_bound hcl
  have hd : decide ((M.2 : Int) = 0) = decide (RtT ts) := by rw [hM]; exact mkT_dec
  have hju : C.2 = 0 → M2 = (l, 0) := fun h => by rw [hM2, hC]; exact (chkT_just (by rw [← hC]; exact h)).2
  have hbk : M.2 = 0 → D = (ts, 0) := fun h => by rw [hD, hM]; exact chkT_back (mkT_rt (by rw [← hM]; exact h)) hts
  refine wp_seq_k fun K1 hK1 => ?_
  refine wp_region_lit ?_
  refine sl hA (lo_boxA hH rfl) rfl ?_
  clear hH; rintro _ w ⟨b_t3, rfl, hH⟩ a hA
  refine sl hA (lo_boxA hH rfl) rfl ?_
  clear hH; rintro _ w ⟨b_t4, rfl, hH⟩ a hA
  refine sq hA (q_assign rfl) rfl fun a hA => ?_
  refine wpList_nil ?_
  refine hK1 _ _ ?_
  clear hK1
  replace hA := hA.sub (E' := [(6, _), (4, _), (3, _), (2, _)]) ⟨rfl, rfl, rfl, rfl, trivial⟩
  refine wp_seq_k fun K2 hK2 => ?_
  refine wp_seq_k fun K3 hK3 => ?_
  refine wp_region_lit ?_
  refine sq hA (q_move rfl) rfl fun a hA => ?_
  refine sq hA (q_len Tryd.underlying22 rfl (Rd.shp hr)) rfl fun a hA => ?_
  refine sq hA (q_gtrI (n := 500) rfl rfl) rfl fun a hA => ?_
  refine wpList_nil ?_
  refine hK3 _ _ ?_
  clear hK3
  replace hA := hA.sub (E' := [(17, _), (6, _), (4, _), (3, _), (2, _)]) ⟨rfl, rfl, rfl, rfl, rfl, trivial⟩
  refine cond_d hA rfl (fun hc17 => ?_) (fun hc17 => ?_)
  · skip
    refine wp_seq_k fun K4 hK4 => ?_
    refine wp_region_lit ?_
    refine sl hA (lo_call fn22 rfl (awake17_any (hg.mono0 hH))) rfl ?_
    rintro _ w ⟨rfl, hC⟩ a hA
    replace hH := HS.call0 hH hC
    clear hC
    refine sq hA (q_assign rfl) rfl fun a hA => ?_
    refine wpList_nil ?_
    refine hK4 _ _ ?_
    clear hK4
    replace hA := hA.sub (E' := [(6, _), (4, _), (3, _), (2, _)]) ⟨rfl, rfl, rfl, rfl, trivial⟩
    refine wp_ret ?_
    refine then_ret ?_
    refine post_ret hA (res_1 rfl hA rfl) ?_
    replace hH := hH.pick [] (Hs' := []) rfl
    exact ⟨_, rfl, rfl, hH⟩
  · skip
    refine wp_skip ?_
    refine hK2 _ _ ?_
    clear hK2
    replace hA := hA.sub (E' := [(6, _), (4, _), (3, _), (2, _)]) ⟨rfl, rfl, rfl, rfl, trivial⟩
    refine wp_seq_k fun K5 hK5 => ?_
    refine wp_region_lit ?_
    refine sq hA (q_loadW hH 1 rfl Tryd.underlying42 rfl ti42 rfl (by first | omega | (simp; done) | (simp; omega) | (rw [List.length_map]; assumption) | assumption | rfl | (simp [*]; done) | (simp [*]; omega))) rfl fun a hA => ?_
    refine sq hA (q_loadW hH 0 rfl Tryd.underlying44 rfl ti44 rfl (by first | omega | (simp; done) | (simp; omega) | (rw [List.length_map]; assumption) | assumption | rfl | (simp [*]; done) | (simp [*]; omega))) rfl fun a hA => ?_
    refine sl hA (lo_call fn26 rfl (maket_g (hg.mono0 hH) _ (by first | assumption | (rw [List.length_map]; assumption) | rfl | exact sha_length _ | (simp; done) | (simp [*]; done) | omega) _ (by first | assumption | (rw [List.length_map]; assumption) | rfl | exact sha_length _ | (simp; done) | (simp [*]; done) | omega) (by assumption))) rfl ?_
    rintro _ w ⟨v_t22, N_t22, rfl, hO_t22, hC⟩ a hA
    replace hH := HS.call0 hH hC
    clear hC
    refine sq hA (q_move rfl) rfl fun a hA => ?_
    refine sq hA (q_extract rfl rfl) rfl fun a hA => ?_
    refine sq hA (q_extract rfl rfl) rfl fun a hA => ?_
    refine sq hA (q_assign rfl) rfl fun a hA => ?_
    refine sq hA (q_assign rfl) rfl fun a hA => ?_
    refine wpList_nil ?_
    refine hK5 _ _ ?_
    clear hK5
    replace hA := hA.sub (E' := [(8, _), (7, _), (6, _), (4, _), (3, _), (2, _)]) ⟨rfl, rfl, rfl, rfl, rfl, rfl, trivial⟩
    refine wp_seq_k fun K6 hK6 => ?_
    refine wp_seq_k fun K7 hK7 => ?_
    refine wp_region_lit ?_
    refine sq hA (q_move rfl) rfl fun a hA => ?_
    refine sq hA (q_eqlI (n := 0) rfl rfl) rfl fun a hA => ?_
    refine wpList_nil ?_
    refine hK7 _ _ ?_
    clear hK7
    replace hA := hA.sub (E' := [(26, _), (8, _), (7, _), (6, _), (4, _), (3, _), (2, _)]) ⟨rfl, rfl, rfl, rfl, rfl, rfl, rfl, trivial⟩
    refine cond_d hA rfl (fun hc26 => ?_) (fun hc26 => ?_)
    · skip
      have hck := hbk (by omega)
      refine wp_seq_k fun K8 hK8 => ?_
      refine wp_region_lit ?_
      refine sq hA (q_loadW hH 2 rfl Tryd.underlying42 rfl ti42 rfl (by first | omega | (simp; done) | (simp; omega) | (rw [List.length_map]; assumption) | assumption | rfl | (simp [*]; done) | (simp [*]; omega))) rfl fun a hA => ?_
      refine sq hA (q_move rfl) rfl fun a hA => ?_
      refine sl hA (lo_call fn23 rfl (checkt_g (hg.mono0 hH) _ (by first | assumption | (rw [List.length_map]; assumption) | rfl | exact sha_length _ | (simp; done) | (simp [*]; done) | omega) _ _ (Own.rd0 hO_t22 hH 0 rfl) (by first | omega | (simp; done) | (simp; omega)) (by assumption))) rfl ?_
      rintro _ w ⟨rfl, hC⟩ a hA
      replace hH := HS.call0 hH hC
      clear hC
      refine sq hA (q_move rfl) rfl fun a hA => ?_
      refine sq hA (q_extract rfl rfl) rfl fun a hA => ?_
      refine sq hA (q_extract rfl rfl) rfl fun a hA => ?_
      refine sl hA (lo_allocA hH ti44) rfl ?_
      clear hH; rintro _ w ⟨b_t9, rfl, hH⟩ a hA
      replace hH : HS _ _ _ ([(b_t9, Obj.cells ((List.replicate 6 (0 : Int)).map I).toArray 44 (0, 0))] :: _) := hH
      refine s0 hA (lo_storeAm hH ti44 rfl rfl (by first | (simp; done) | (rw [List.length_map]; assumption) | rfl | (simp [*]; done)) (by first | (simp; done) | (rw [List.length_map]; assumption) | rfl | (simp [*]; done)) (one_I _)) ?_
      clear hH; rintro _ w hH
      refine sq hA (q_assign rfl) rfl fun a hA => ?_
      refine wpList_nil ?_
      refine hK8 _ _ ?_
      clear hK8
      replace hA := hA.sub (E' := [(10, _), (9, _), (8, _), (6, _), (4, _), (3, _), (2, _)]) ⟨rfl, rfl, rfl, rfl, rfl, rfl, rfl, trivial⟩
      refine wp_seq_k fun K9 hK9 => ?_
      refine wp_region_lit ?_
      refine sq hA (q_move rfl) rfl fun a hA => ?_
      refine sq hA (q_neqI (n := 0) rfl rfl) rfl fun a hA => ?_
      replace hA := hA.decF (by rw [hck]; exact fun h => h rfl)
      refine sq hA (q_move rfl) rfl fun a hA => ?_
      refine gq hA rfl rfl (q_loadW hH 0 rfl Tryd.underlying44 rfl ti44 rfl (by first | omega | (simp; done) | (simp; omega) | (rw [List.length_map]; assumption) | assumption | rfl | (simp [*]; done) | (simp [*]; omega))) rfl fun a hA => ?_
      refine gq hA rfl rfl (q_loadW hH 2 rfl Tryd.underlying44 rfl ti44 rfl (by first | omega | (simp; done) | (simp; omega) | (rw [List.length_map]; assumption) | assumption | rfl | (simp [*]; done) | (simp [*]; omega))) rfl fun a hA => ?_
      refine gq hA rfl rfl (q_neqS (n := 6) ⟨Tryd.underlying44, by kernel_rfl, by kernel_rfl, by kernel_rfl, by kernel_rfl⟩ rfl rfl (by first | assumption | (rw [List.length_map]; assumption) | rfl | exact sha_length _ | (simp; done) | (simp [*]; done) | omega) (by first | assumption | (rw [List.length_map]; assumption) | rfl | exact sha_length _ | (simp; done) | (simp [*]; done) | omega)) rfl fun a hA => ?_
      refine sq hA (q_pick_f rfl rfl) rfl fun a hA => ?_
      refine wpList_nil ?_
      refine hK9 _ _ ?_
      clear hK9
      replace hA := hA.sub (E' := [(39, _), (8, _), (6, _), (4, _), (3, _), (2, _)]) ⟨rfl, rfl, rfl, rfl, rfl, rfl, trivial⟩
      refine cond_d hA rfl (fun hnn => absurd hnn (fun h => h (by rw [hck]))) (fun _ => ?_)
      refine wp_skip ?_
      refine hK6 _ _ ?_
      clear hK6
      replace hA := hA.sub (E' := [(8, _), (6, _), (4, _), (3, _), (2, _)]) ⟨rfl, rfl, rfl, rfl, rfl, trivial⟩
      refine wp_seq_k fun K10 hK10 => ?_
      refine any_go mixed (fun j => !(Nat.beq j 3 || Nat.beq j 8)) hH ?_
      clear hH; intro w hH
      have hS := hH
      change wpK _ _ _ _ _ _ 10 #[false, false, false, false, false, false, false, false, false, false] _ _
      refine aq hA 0 rfl (by kernel_rfl) (by intro c a d v w h; cases d <;> exact h) hS (fun w hH => (q_loadW hH 3 rfl Tryd.underlying42 rfl ti42 rfl (by first | omega | (simp; done) | (simp; omega) | (rw [List.length_map]; assumption) | assumption | rfl | (simp [*]; done) | (simp [*]; omega)))) rfl (listed' := #[true, false, false, false, false, false, false, false, false, false]) rfl fun a hA => ?_
      refine apq hA 1 rfl (by kernel_rfl) (by intro c a d v w h; cases d <;> exact h) (fun w => (q_move rfl)) rfl (listed' := #[true, true, false, false, false, false, false, false, false, false]) rfl fun a hA => ?_
      refine a_ch2 (i := 2) (j := 7) (by kernel_rfl) ?_ ?_
      · skip
        refine oneL hA 2 rfl (lo_call fn24 rfl (own17_any _ _ (hH.rd hr) (by first | omega | (simp; done) | (simp; omega)))) rfl (listed' := #[true, true, true, false, false, false, false, false, false, false]) rfl ?_
        rintro _ w ⟨v_t43, N_t43, rfl, hO_t43, hC⟩
        replace hH := HS.call0 hH hC
        clear hC
        have hS' := hH.pick [1, 2, 3, 4] (Hs' := [_, _, _, _]) rfl
        replace hS := hS'; clear hS'
        refine ⟨fun _ _ => hS, ?_⟩
        intro a hA
        refine a_ch2 (i := 3) (j := 7) (by kernel_rfl) ?_ ?_
        · skip
          refine oneL hA 3 rfl (lo_call fn23 rfl (checkt_g (hg.mono0 hH) _ (by first | assumption | (rw [List.length_map]; assumption) | rfl | exact sha_length _ | (simp; done) | (simp [*]; done) | omega) _ _ (Own.rd0 hO_t43 hH 0 rfl) (by first | omega | (simp; done) | (simp; omega)) (by assumption))) rfl (listed' := #[true, true, true, true, false, false, false, false, false, false]) rfl ?_
          rintro _ w ⟨rfl, hC⟩
          replace hH := HS.call0 hH hC
          clear hC
          refine ⟨fun _ h => absurd h (by decide), ?_⟩
          intro a hA
          refine apq hA 4 rfl (by kernel_rfl) (by intro c a d v w h; cases d <;> exact h) (fun w => (q_move rfl)) rfl (listed' := #[true, true, true, true, true, false, false, false, false, false]) rfl fun a hA => ?_
          refine apq hA 5 rfl (by kernel_rfl) (by intro c a d v w h; cases d <;> exact h) (fun w => (q_extract rfl rfl)) rfl (listed' := #[true, true, true, true, true, true, false, false, false, false]) rfl fun a hA => ?_
          refine apq hA 6 rfl (by kernel_rfl) (by intro c a d v w h; cases d <;> exact h) (fun w => (q_extract rfl rfl)) rfl (listed' := #[true, true, true, true, true, true, true, false, false, false]) rfl fun a hA => ?_
          refine al hA 7 rfl (by kernel_rfl) (lo_allocA hH ti44) rfl (listed' := #[true, true, true, true, true, true, true, true, false, false]) rfl ?_
          clear hH; rintro _ w ⟨b_t11, rfl, hH⟩
          replace hH : HS _ _ _ ([(b_t11, Obj.cells ((List.replicate 6 (0 : Int)).map I).toArray 44 (0, 0))] :: _) := hH
          have hS' := hH.pick [2, 3, 4, 5] (Hs' := [_, _, _, _]) rfl
          replace hS := hS'; clear hS'
          refine ⟨fun _ _ => hS, ?_⟩
          intro a hA
          refine al0 hA 8 rfl (by kernel_rfl) (lo_storeAm hH ti44 rfl rfl (by first | (simp; done) | (rw [List.length_map]; assumption) | rfl | (simp [*]; done)) (by first | (simp; done) | (rw [List.length_map]; assumption) | rfl | (simp [*]; done)) (one_I _)) (listed' := #[true, true, true, true, true, true, true, true, true, false]) rfl ?_
          clear hH; rintro _ w hH
          refine ⟨fun _ h => absurd h (by decide), ?_⟩
          refine apq hA 9 rfl (by kernel_rfl) (by intro c a d v w h; cases d <;> exact h) (fun w => (q_assign rfl)) rfl (listed' := #[true, true, true, true, true, true, true, true, true, true]) rfl fun a hA => ?_
          refine a_end (by kernel_rfl) ?_ _
          refine hK10 _ _ ?_
          clear hK10
          replace hA := hA.sub (E' := [(12, _), (11, _), (8, _), (6, _), (4, _), (3, _), (2, _)]) ⟨rfl, rfl, rfl, rfl, rfl, rfl, rfl, trivial⟩
          refine wp_seq_k fun K11 hK11 => ?_
          refine wp_region_lit ?_
          refine sq hA (q_loadW hH 5 rfl Tryd.underlying42 rfl ti42 rfl (by first | omega | (simp; done) | (simp; omega) | (rw [List.length_map]; assumption) | assumption | rfl | (simp [*]; done) | (simp [*]; omega))) rfl fun a hA => ?_
          refine sq hA (q_loadW hH 0 rfl Tryd.underlying44 rfl ti44 rfl (by first | omega | (simp; done) | (simp; omega) | (rw [List.length_map]; assumption) | assumption | rfl | (simp [*]; done) | (simp [*]; omega))) rfl fun a hA => ?_
          refine sl hA (lo_call fn26 rfl (maket_g (hg.mono0 hH) _ (by first | assumption | (rw [List.length_map]; assumption) | rfl | exact sha_length _ | (simp; done) | (simp [*]; done) | omega) _ (by first | assumption | (rw [List.length_map]; assumption) | rfl | exact sha_length _ | (simp; done) | (simp [*]; done) | omega) (by assumption))) rfl ?_
          rintro _ w ⟨v_t50, N_t50, rfl, hO_t50, hC⟩ a hA
          replace hH := HS.call0 hH hC
          clear hC
          refine sq hA (q_move rfl) rfl fun a hA => ?_
          refine sq hA (q_extract rfl rfl) rfl fun a hA => ?_
          refine sq hA (q_extract rfl rfl) rfl fun a hA => ?_
          refine sq hA (q_assign rfl) rfl fun a hA => ?_
          refine sq hA (q_assign rfl) rfl fun a hA => ?_
          refine wpList_nil ?_
          refine hK11 _ _ ?_
          clear hK11
          replace hA := hA.sub (E' := [(14, _), (13, _), (12, _), (8, _), (6, _), (4, _), (2, _)]) ⟨rfl, rfl, rfl, rfl, rfl, rfl, rfl, trivial⟩
          refine wp_seq_k fun K12 hK12 => ?_
          refine wp_region_lit ?_
          refine sq hA (q_move rfl) rfl fun a hA => ?_
          refine sq hA (q_eqlI (n := 0) rfl rfl) rfl fun a hA => ?_
          refine sq hA (q_loadW hH 5 rfl Tryd.underlying44 rfl ti44 rfl (by first | omega | (simp; done) | (simp; omega) | (rw [List.length_map]; assumption) | assumption | rfl | (simp [*]; done) | (simp [*]; omega))) rfl fun a hA => ?_
          refine sl hA (lo_call fn27 rfl (rightT_any _ (by first | assumption | (rw [List.length_map]; assumption) | rfl | exact sha_length _ | (simp; done) | (simp [*]; done) | omega))) rfl ?_
          rintro _ w ⟨rfl, hC⟩ a hA
          replace hH := HS.call0 hH hC
          clear hC
          refine sq hA (q_eqlB Tryd.underlying4 rfl rfl) rfl fun a hA => ?_
          replace hA := hA.decT (by exact hd)
          refine sq hA (q_move rfl) rfl fun a hA => ?_
          refine gq hA rfl rfl (q_move rfl) rfl fun a hA => ?_
          refine gq hA rfl rfl (q_neqI (n := 0) rfl rfl) rfl fun a hA => ?_
          refine hA.spl (fun hs60 hA => ?_) (fun hs60 hA => ?_)
          · skip
            refine gq hA rfl rfl (q_move rfl) rfl fun a hA => ?_
            refine gs hA rfl rfl rfl rfl fun a hA => ?_
            refine gs hA rfl rfl rfl rfl fun a hA => ?_
            refine gsU hA rfl rfl rfl rfl fun a hA => ?_
            refine gs0U hA rfl rfl rfl fun a hA => ?_
            refine gs0U hA rfl rfl rfl fun a hA => ?_
            refine gs0U hA rfl rfl rfl fun a hA => ?_
            refine gs hA rfl rfl rfl rfl fun a hA => ?_
            refine gq hA rfl rfl (q_pick_t rfl rfl) rfl fun a hA => ?_
            refine sq hA (q_pick_t rfl rfl) rfl fun a hA => ?_
            refine sq hA (q_move rfl) rfl fun a hA => ?_
            refine gl hA rfl rfl (lo_call fn22 rfl (awake17_any (hg.mono0 hH))) rfl ?_
            rintro _ w ⟨rfl, hC⟩ a hA
            replace hH := HS.call0 hH hC
            clear hC
            refine sq hA (q_pick_t rfl rfl) rfl fun a hA => ?_
            refine sq hA (q_assign rfl) rfl fun a hA => ?_
            refine wpList_nil ?_
            refine hK12 _ _ ?_
            clear hK12
            replace hA := hA.sub (E' := [(6, _)]) ⟨rfl, trivial⟩
            refine wp_ret ?_
            refine post_ret hA (res_1 rfl hA rfl) ?_
            replace hH := hH.pick [] (Hs' := []) rfl
            exact ⟨_, rfl, rfl, hH⟩
          · skip
            refine gq hA rfl rfl (q_move rfl) rfl fun a hA => ?_
            refine gq hA rfl rfl (q_move rfl) rfl fun a hA => ?_
            refine gq hA rfl rfl (q_eqlI (n := 0) rfl rfl) rfl fun a hA => ?_
            replace hA := hA.decT (by rw [hju (by omega)]; rfl)
            refine gq hA rfl rfl (q_move rfl) rfl fun a hA => ?_
            refine gq hA rfl rfl (q_move rfl) rfl fun a hA => ?_
            refine gq hA rfl rfl (q_move rfl) rfl fun a hA => ?_
            refine gl hA rfl rfl (lo_call fn17 rfl (same_any _ _ _ _ (Own.rd0 hO_t50 hH 0 rfl) (hH.rd hr) (by first | omega | (simp; done) | (simp; omega)) (by first | omega | (simp; done) | (simp; omega)))) rfl ?_
            rintro _ w ⟨rfl, hC⟩ a hA
            replace hH := HS.call0 hH hC
            clear hC
            refine gq hA rfl rfl (q_pick_t rfl rfl) rfl fun a hA => ?_
            refine gq hA rfl rfl (q_pick_f rfl rfl) rfl fun a hA => ?_
            refine sq hA (q_pick_t rfl rfl) rfl fun a hA => ?_
            replace hA := hA.decT (by rw [hju (by omega)])
            refine sq hA (q_move rfl) rfl fun a hA => ?_
            refine gl hA rfl rfl (lo_call fn22 rfl (awake17_any (hg.mono0 hH))) rfl ?_
            rintro _ w ⟨rfl, hC⟩ a hA
            replace hH := HS.call0 hH hC
            clear hC
            refine sq hA (q_pick_t rfl rfl) rfl fun a hA => ?_
            refine sq hA (q_assign rfl) rfl fun a hA => ?_
            refine wpList_nil ?_
            refine hK12 _ _ ?_
            clear hK12
            replace hA := hA.sub (E' := [(6, _)]) ⟨rfl, trivial⟩
            refine wp_ret ?_
            refine post_ret hA (res_1 rfl hA rfl) ?_
            replace hH := hH.pick [] (Hs' := []) rfl
            exact ⟨_, rfl, rfl, hH⟩
        · skip
          refine oneL hA 7 rfl (lo_allocA hH ti44) rfl (listed' := #[true, true, true, false, false, false, false, true, false, false]) rfl ?_
          clear hH; rintro _ w ⟨b_t11, rfl, hH⟩
          replace hH : HS _ _ _ ([(b_t11, Obj.cells ((List.replicate 6 (0 : Int)).map I).toArray 44 (0, 0))] :: _) := hH
          have hS' := hH.pick [2, 3, 4, 5] (Hs' := [_, _, _, _]) rfl
          replace hS := hS'; clear hS'
          refine ⟨fun _ _ => hS, ?_⟩
          intro a hA
          refine al hA 3 rfl (by kernel_rfl) (lo_call fn23 rfl (checkt_g (hg.mono0 hH) _ (by first | assumption | (rw [List.length_map]; assumption) | rfl | exact sha_length _ | (simp; done) | (simp [*]; done) | omega) _ _ (Own.rd0 hO_t43 hH 1 rfl) (by first | omega | (simp; done) | (simp; omega)) (by assumption))) rfl (listed' := #[true, true, true, true, false, false, false, true, false, false]) rfl ?_
          rintro _ w ⟨rfl, hC⟩
          replace hH := HS.call0 hH hC
          clear hC
          refine ⟨fun _ h => absurd h (by decide), ?_⟩
          intro a hA
          refine apq hA 4 rfl (by kernel_rfl) (by intro c a d v w h; cases d <;> exact h) (fun w => (q_move rfl)) rfl (listed' := #[true, true, true, true, true, false, false, true, false, false]) rfl fun a hA => ?_
          refine apq hA 5 rfl (by kernel_rfl) (by intro c a d v w h; cases d <;> exact h) (fun w => (q_extract rfl rfl)) rfl (listed' := #[true, true, true, true, true, true, false, true, false, false]) rfl fun a hA => ?_
          refine apq hA 6 rfl (by kernel_rfl) (by intro c a d v w h; cases d <;> exact h) (fun w => (q_extract rfl rfl)) rfl (listed' := #[true, true, true, true, true, true, true, true, false, false]) rfl fun a hA => ?_
          refine al0 hA 8 rfl (by kernel_rfl) (lo_storeAm hH ti44 rfl rfl (by first | (simp; done) | (rw [List.length_map]; assumption) | rfl | (simp [*]; done)) (by first | (simp; done) | (rw [List.length_map]; assumption) | rfl | (simp [*]; done)) (one_I _)) (listed' := #[true, true, true, true, true, true, true, true, true, false]) rfl ?_
          clear hH; rintro _ w hH
          refine ⟨fun _ h => absurd h (by decide), ?_⟩
          refine apq hA 9 rfl (by kernel_rfl) (by intro c a d v w h; cases d <;> exact h) (fun w => (q_assign rfl)) rfl (listed' := #[true, true, true, true, true, true, true, true, true, true]) rfl fun a hA => ?_
          refine a_end (by kernel_rfl) ?_ _
          refine hK10 _ _ ?_
          clear hK10
          replace hA := hA.sub (E' := [(12, _), (11, _), (8, _), (6, _), (4, _), (3, _), (2, _)]) ⟨rfl, rfl, rfl, rfl, rfl, rfl, rfl, trivial⟩
          refine wp_seq_k fun K13 hK13 => ?_
          refine wp_region_lit ?_
          refine sq hA (q_loadW hH 5 rfl Tryd.underlying42 rfl ti42 rfl (by first | omega | (simp; done) | (simp; omega) | (rw [List.length_map]; assumption) | assumption | rfl | (simp [*]; done) | (simp [*]; omega))) rfl fun a hA => ?_
          refine sq hA (q_loadW hH 0 rfl Tryd.underlying44 rfl ti44 rfl (by first | omega | (simp; done) | (simp; omega) | (rw [List.length_map]; assumption) | assumption | rfl | (simp [*]; done) | (simp [*]; omega))) rfl fun a hA => ?_
          refine sl hA (lo_call fn26 rfl (maket_g (hg.mono0 hH) _ (by first | assumption | (rw [List.length_map]; assumption) | rfl | exact sha_length _ | (simp; done) | (simp [*]; done) | omega) _ (by first | assumption | (rw [List.length_map]; assumption) | rfl | exact sha_length _ | (simp; done) | (simp [*]; done) | omega) (by assumption))) rfl ?_
          rintro _ w ⟨v_t50, N_t50, rfl, hO_t50, hC⟩ a hA
          replace hH := HS.call0 hH hC
          clear hC
          refine sq hA (q_move rfl) rfl fun a hA => ?_
          refine sq hA (q_extract rfl rfl) rfl fun a hA => ?_
          refine sq hA (q_extract rfl rfl) rfl fun a hA => ?_
          refine sq hA (q_assign rfl) rfl fun a hA => ?_
          refine sq hA (q_assign rfl) rfl fun a hA => ?_
          refine wpList_nil ?_
          refine hK13 _ _ ?_
          clear hK13
          replace hA := hA.sub (E' := [(14, _), (13, _), (12, _), (8, _), (6, _), (4, _), (2, _)]) ⟨rfl, rfl, rfl, rfl, rfl, rfl, rfl, trivial⟩
          refine wp_seq_k fun K14 hK14 => ?_
          refine wp_region_lit ?_
          refine sq hA (q_move rfl) rfl fun a hA => ?_
          refine sq hA (q_eqlI (n := 0) rfl rfl) rfl fun a hA => ?_
          refine sq hA (q_loadW hH 5 rfl Tryd.underlying44 rfl ti44 rfl (by first | omega | (simp; done) | (simp; omega) | (rw [List.length_map]; assumption) | assumption | rfl | (simp [*]; done) | (simp [*]; omega))) rfl fun a hA => ?_
          refine sl hA (lo_call fn27 rfl (rightT_any _ (by first | assumption | (rw [List.length_map]; assumption) | rfl | exact sha_length _ | (simp; done) | (simp [*]; done) | omega))) rfl ?_
          rintro _ w ⟨rfl, hC⟩ a hA
          replace hH := HS.call0 hH hC
          clear hC
          refine sq hA (q_eqlB Tryd.underlying4 rfl rfl) rfl fun a hA => ?_
          replace hA := hA.decT (by exact hd)
          refine sq hA (q_move rfl) rfl fun a hA => ?_
          refine gq hA rfl rfl (q_move rfl) rfl fun a hA => ?_
          refine gq hA rfl rfl (q_neqI (n := 0) rfl rfl) rfl fun a hA => ?_
          refine hA.spl (fun hs60 hA => ?_) (fun hs60 hA => ?_)
          · skip
            refine gq hA rfl rfl (q_move rfl) rfl fun a hA => ?_
            refine gs hA rfl rfl rfl rfl fun a hA => ?_
            refine gs hA rfl rfl rfl rfl fun a hA => ?_
            refine gsU hA rfl rfl rfl rfl fun a hA => ?_
            refine gs0U hA rfl rfl rfl fun a hA => ?_
            refine gs0U hA rfl rfl rfl fun a hA => ?_
            refine gs0U hA rfl rfl rfl fun a hA => ?_
            refine gs hA rfl rfl rfl rfl fun a hA => ?_
            refine gq hA rfl rfl (q_pick_t rfl rfl) rfl fun a hA => ?_
            refine sq hA (q_pick_t rfl rfl) rfl fun a hA => ?_
            refine sq hA (q_move rfl) rfl fun a hA => ?_
            refine gl hA rfl rfl (lo_call fn22 rfl (awake17_any (hg.mono0 hH))) rfl ?_
            rintro _ w ⟨rfl, hC⟩ a hA
            replace hH := HS.call0 hH hC
            clear hC
            refine sq hA (q_pick_t rfl rfl) rfl fun a hA => ?_
            refine sq hA (q_assign rfl) rfl fun a hA => ?_
            refine wpList_nil ?_
            refine hK14 _ _ ?_
            clear hK14
            replace hA := hA.sub (E' := [(6, _)]) ⟨rfl, trivial⟩
            refine wp_ret ?_
            refine post_ret hA (res_1 rfl hA rfl) ?_
            replace hH := hH.pick [] (Hs' := []) rfl
            exact ⟨_, rfl, rfl, hH⟩
          · skip
            refine gq hA rfl rfl (q_move rfl) rfl fun a hA => ?_
            refine gq hA rfl rfl (q_move rfl) rfl fun a hA => ?_
            refine gq hA rfl rfl (q_eqlI (n := 0) rfl rfl) rfl fun a hA => ?_
            replace hA := hA.decT (by rw [hju (by omega)]; rfl)
            refine gq hA rfl rfl (q_move rfl) rfl fun a hA => ?_
            refine gq hA rfl rfl (q_move rfl) rfl fun a hA => ?_
            refine gq hA rfl rfl (q_move rfl) rfl fun a hA => ?_
            refine gl hA rfl rfl (lo_call fn17 rfl (same_any _ _ _ _ (Own.rd0 hO_t50 hH 0 rfl) (hH.rd hr) (by first | omega | (simp; done) | (simp; omega)) (by first | omega | (simp; done) | (simp; omega)))) rfl ?_
            rintro _ w ⟨rfl, hC⟩ a hA
            replace hH := HS.call0 hH hC
            clear hC
            refine gq hA rfl rfl (q_pick_t rfl rfl) rfl fun a hA => ?_
            refine gq hA rfl rfl (q_pick_f rfl rfl) rfl fun a hA => ?_
            refine sq hA (q_pick_t rfl rfl) rfl fun a hA => ?_
            replace hA := hA.decT (by rw [hju (by omega)])
            refine sq hA (q_move rfl) rfl fun a hA => ?_
            refine gl hA rfl rfl (lo_call fn22 rfl (awake17_any (hg.mono0 hH))) rfl ?_
            rintro _ w ⟨rfl, hC⟩ a hA
            replace hH := HS.call0 hH hC
            clear hC
            refine sq hA (q_pick_t rfl rfl) rfl fun a hA => ?_
            refine sq hA (q_assign rfl) rfl fun a hA => ?_
            refine wpList_nil ?_
            refine hK14 _ _ ?_
            clear hK14
            replace hA := hA.sub (E' := [(6, _)]) ⟨rfl, trivial⟩
            refine wp_ret ?_
            refine post_ret hA (res_1 rfl hA rfl) ?_
            replace hH := hH.pick [] (Hs' := []) rfl
            exact ⟨_, rfl, rfl, hH⟩
      · skip
        refine oneL hA 7 rfl (lo_allocA hH ti44) rfl (listed' := #[true, true, false, false, false, false, false, true, false, false]) rfl ?_
        clear hH; rintro _ w ⟨b_t11, rfl, hH⟩
        replace hH : HS _ _ _ ([(b_t11, Obj.cells ((List.replicate 6 (0 : Int)).map I).toArray 44 (0, 0))] :: _) := hH
        have hS' := hH.pick [1, 2, 3, 4] (Hs' := [_, _, _, _]) rfl
        replace hS := hS'; clear hS'
        refine ⟨fun _ _ => hS, ?_⟩
        intro a hA
        refine al hA 2 rfl (by kernel_rfl) (lo_call fn24 rfl (own17_any _ _ (hH.rd hr) (by first | omega | (simp; done) | (simp; omega)))) rfl (listed' := #[true, true, true, false, false, false, false, true, false, false]) rfl ?_
        rintro _ w ⟨v_t43, N_t43, rfl, hO_t43, hC⟩
        replace hH := HS.call0 hH hC
        clear hC
        have hS' := hH.pick [2, 3, 4, 5] (Hs' := [_, _, _, _]) rfl
        replace hS := hS'; clear hS'
        refine ⟨fun _ _ => hS, ?_⟩
        intro a hA
        refine al hA 3 rfl (by kernel_rfl) (lo_call fn23 rfl (checkt_g (hg.mono0 hH) _ (by first | assumption | (rw [List.length_map]; assumption) | rfl | exact sha_length _ | (simp; done) | (simp [*]; done) | omega) _ _ (Own.rd0 hO_t43 hH 0 rfl) (by first | omega | (simp; done) | (simp; omega)) (by assumption))) rfl (listed' := #[true, true, true, true, false, false, false, true, false, false]) rfl ?_
        rintro _ w ⟨rfl, hC⟩
        replace hH := HS.call0 hH hC
        clear hC
        refine ⟨fun _ h => absurd h (by decide), ?_⟩
        intro a hA
        refine apq hA 4 rfl (by kernel_rfl) (by intro c a d v w h; cases d <;> exact h) (fun w => (q_move rfl)) rfl (listed' := #[true, true, true, true, true, false, false, true, false, false]) rfl fun a hA => ?_
        refine apq hA 5 rfl (by kernel_rfl) (by intro c a d v w h; cases d <;> exact h) (fun w => (q_extract rfl rfl)) rfl (listed' := #[true, true, true, true, true, true, false, true, false, false]) rfl fun a hA => ?_
        refine apq hA 6 rfl (by kernel_rfl) (by intro c a d v w h; cases d <;> exact h) (fun w => (q_extract rfl rfl)) rfl (listed' := #[true, true, true, true, true, true, true, true, false, false]) rfl fun a hA => ?_
        replace hH := hH.pick [1, 0, 2, 3, 4, 5] (Hs' := [_, _, _, _, _, _]) rfl
        refine al0 hA 8 rfl (by kernel_rfl) (lo_storeAm hH ti44 rfl rfl (by first | (simp; done) | (rw [List.length_map]; assumption) | rfl | (simp [*]; done)) (by first | (simp; done) | (rw [List.length_map]; assumption) | rfl | (simp [*]; done)) (one_I _)) (listed' := #[true, true, true, true, true, true, true, true, true, false]) rfl ?_
        clear hH; rintro _ w hH
        refine ⟨fun _ h => absurd h (by decide), ?_⟩
        refine apq hA 9 rfl (by kernel_rfl) (by intro c a d v w h; cases d <;> exact h) (fun w => (q_assign rfl)) rfl (listed' := #[true, true, true, true, true, true, true, true, true, true]) rfl fun a hA => ?_
        refine a_end (by kernel_rfl) ?_ _
        refine hK10 _ _ ?_
        clear hK10
        replace hA := hA.sub (E' := [(12, _), (11, _), (8, _), (6, _), (4, _), (3, _), (2, _)]) ⟨rfl, rfl, rfl, rfl, rfl, rfl, rfl, trivial⟩
        refine wp_seq_k fun K15 hK15 => ?_
        refine wp_region_lit ?_
        refine sq hA (q_loadW hH 5 rfl Tryd.underlying42 rfl ti42 rfl (by first | omega | (simp; done) | (simp; omega) | (rw [List.length_map]; assumption) | assumption | rfl | (simp [*]; done) | (simp [*]; omega))) rfl fun a hA => ?_
        refine sq hA (q_loadW hH 0 rfl Tryd.underlying44 rfl ti44 rfl (by first | omega | (simp; done) | (simp; omega) | (rw [List.length_map]; assumption) | assumption | rfl | (simp [*]; done) | (simp [*]; omega))) rfl fun a hA => ?_
        refine sl hA (lo_call fn26 rfl (maket_g (hg.mono0 hH) _ (by first | assumption | (rw [List.length_map]; assumption) | rfl | exact sha_length _ | (simp; done) | (simp [*]; done) | omega) _ (by first | assumption | (rw [List.length_map]; assumption) | rfl | exact sha_length _ | (simp; done) | (simp [*]; done) | omega) (by assumption))) rfl ?_
        rintro _ w ⟨v_t50, N_t50, rfl, hO_t50, hC⟩ a hA
        replace hH := HS.call0 hH hC
        clear hC
        refine sq hA (q_move rfl) rfl fun a hA => ?_
        refine sq hA (q_extract rfl rfl) rfl fun a hA => ?_
        refine sq hA (q_extract rfl rfl) rfl fun a hA => ?_
        refine sq hA (q_assign rfl) rfl fun a hA => ?_
        refine sq hA (q_assign rfl) rfl fun a hA => ?_
        refine wpList_nil ?_
        refine hK15 _ _ ?_
        clear hK15
        replace hA := hA.sub (E' := [(14, _), (13, _), (12, _), (8, _), (6, _), (4, _), (2, _)]) ⟨rfl, rfl, rfl, rfl, rfl, rfl, rfl, trivial⟩
        refine wp_seq_k fun K16 hK16 => ?_
        refine wp_region_lit ?_
        refine sq hA (q_move rfl) rfl fun a hA => ?_
        refine sq hA (q_eqlI (n := 0) rfl rfl) rfl fun a hA => ?_
        refine sq hA (q_loadW hH 5 rfl Tryd.underlying44 rfl ti44 rfl (by first | omega | (simp; done) | (simp; omega) | (rw [List.length_map]; assumption) | assumption | rfl | (simp [*]; done) | (simp [*]; omega))) rfl fun a hA => ?_
        refine sl hA (lo_call fn27 rfl (rightT_any _ (by first | assumption | (rw [List.length_map]; assumption) | rfl | exact sha_length _ | (simp; done) | (simp [*]; done) | omega))) rfl ?_
        rintro _ w ⟨rfl, hC⟩ a hA
        replace hH := HS.call0 hH hC
        clear hC
        refine sq hA (q_eqlB Tryd.underlying4 rfl rfl) rfl fun a hA => ?_
        replace hA := hA.decT (by exact hd)
        refine sq hA (q_move rfl) rfl fun a hA => ?_
        refine gq hA rfl rfl (q_move rfl) rfl fun a hA => ?_
        refine gq hA rfl rfl (q_neqI (n := 0) rfl rfl) rfl fun a hA => ?_
        refine hA.spl (fun hs60 hA => ?_) (fun hs60 hA => ?_)
        · skip
          refine gq hA rfl rfl (q_move rfl) rfl fun a hA => ?_
          refine gs hA rfl rfl rfl rfl fun a hA => ?_
          refine gs hA rfl rfl rfl rfl fun a hA => ?_
          refine gsU hA rfl rfl rfl rfl fun a hA => ?_
          refine gs0U hA rfl rfl rfl fun a hA => ?_
          refine gs0U hA rfl rfl rfl fun a hA => ?_
          refine gs0U hA rfl rfl rfl fun a hA => ?_
          refine gs hA rfl rfl rfl rfl fun a hA => ?_
          refine gq hA rfl rfl (q_pick_t rfl rfl) rfl fun a hA => ?_
          refine sq hA (q_pick_t rfl rfl) rfl fun a hA => ?_
          refine sq hA (q_move rfl) rfl fun a hA => ?_
          refine gl hA rfl rfl (lo_call fn22 rfl (awake17_any (hg.mono0 hH))) rfl ?_
          rintro _ w ⟨rfl, hC⟩ a hA
          replace hH := HS.call0 hH hC
          clear hC
          refine sq hA (q_pick_t rfl rfl) rfl fun a hA => ?_
          refine sq hA (q_assign rfl) rfl fun a hA => ?_
          refine wpList_nil ?_
          refine hK16 _ _ ?_
          clear hK16
          replace hA := hA.sub (E' := [(6, _)]) ⟨rfl, trivial⟩
          refine wp_ret ?_
          refine post_ret hA (res_1 rfl hA rfl) ?_
          replace hH := hH.pick [] (Hs' := []) rfl
          exact ⟨_, rfl, rfl, hH⟩
        · skip
          refine gq hA rfl rfl (q_move rfl) rfl fun a hA => ?_
          refine gq hA rfl rfl (q_move rfl) rfl fun a hA => ?_
          refine gq hA rfl rfl (q_eqlI (n := 0) rfl rfl) rfl fun a hA => ?_
          replace hA := hA.decT (by rw [hju (by omega)]; rfl)
          refine gq hA rfl rfl (q_move rfl) rfl fun a hA => ?_
          refine gq hA rfl rfl (q_move rfl) rfl fun a hA => ?_
          refine gq hA rfl rfl (q_move rfl) rfl fun a hA => ?_
          refine gl hA rfl rfl (lo_call fn17 rfl (same_any _ _ _ _ (Own.rd0 hO_t50 hH 0 rfl) (hH.rd hr) (by first | omega | (simp; done) | (simp; omega)) (by first | omega | (simp; done) | (simp; omega)))) rfl ?_
          rintro _ w ⟨rfl, hC⟩ a hA
          replace hH := HS.call0 hH hC
          clear hC
          refine gq hA rfl rfl (q_pick_t rfl rfl) rfl fun a hA => ?_
          refine gq hA rfl rfl (q_pick_f rfl rfl) rfl fun a hA => ?_
          refine sq hA (q_pick_t rfl rfl) rfl fun a hA => ?_
          replace hA := hA.decT (by rw [hju (by omega)])
          refine sq hA (q_move rfl) rfl fun a hA => ?_
          refine gl hA rfl rfl (lo_call fn22 rfl (awake17_any (hg.mono0 hH))) rfl ?_
          rintro _ w ⟨rfl, hC⟩ a hA
          replace hH := HS.call0 hH hC
          clear hC
          refine sq hA (q_pick_t rfl rfl) rfl fun a hA => ?_
          refine sq hA (q_assign rfl) rfl fun a hA => ?_
          refine wpList_nil ?_
          refine hK16 _ _ ?_
          clear hK16
          replace hA := hA.sub (E' := [(6, _)]) ⟨rfl, trivial⟩
          refine wp_ret ?_
          refine post_ret hA (res_1 rfl hA rfl) ?_
          replace hH := hH.pick [] (Hs' := []) rfl
          exact ⟨_, rfl, rfl, hH⟩
    · skip
      refine wp_skip ?_
      refine hK6 _ _ ?_
      clear hK6
      replace hA := hA.sub (E' := [(8, _), (6, _), (4, _), (3, _), (2, _)]) ⟨rfl, rfl, rfl, rfl, rfl, trivial⟩
      refine wp_seq_k fun K17 hK17 => ?_
      refine any_go mixed (fun j => !(Nat.beq j 3 || Nat.beq j 8)) hH ?_
      clear hH; intro w hH
      have hS := hH
      change wpK _ _ _ _ _ _ 10 #[false, false, false, false, false, false, false, false, false, false] _ _
      refine aq hA 0 rfl (by kernel_rfl) (by intro c a d v w h; cases d <;> exact h) hS (fun w hH => (q_loadW hH 2 rfl Tryd.underlying42 rfl ti42 rfl (by first | omega | (simp; done) | (simp; omega) | (rw [List.length_map]; assumption) | assumption | rfl | (simp [*]; done) | (simp [*]; omega)))) rfl (listed' := #[true, false, false, false, false, false, false, false, false, false]) rfl fun a hA => ?_
      refine apq hA 1 rfl (by kernel_rfl) (by intro c a d v w h; cases d <;> exact h) (fun w => (q_move rfl)) rfl (listed' := #[true, true, false, false, false, false, false, false, false, false]) rfl fun a hA => ?_
      refine a_ch2 (i := 2) (j := 7) (by kernel_rfl) ?_ ?_
      · skip
        refine oneL hA 2 rfl (lo_call fn24 rfl (own17_any _ _ (hH.rd hr) (by first | omega | (simp; done) | (simp; omega)))) rfl (listed' := #[true, true, true, false, false, false, false, false, false, false]) rfl ?_
        rintro _ w ⟨v_t43, N_t43, rfl, hO_t43, hC⟩
        replace hH := HS.call0 hH hC
        clear hC
        have hS' := hH.pick [1, 2, 3] (Hs' := [_, _, _]) rfl
        replace hS := hS'; clear hS'
        refine ⟨fun _ _ => hS, ?_⟩
        intro a hA
        refine a_ch2 (i := 3) (j := 7) (by kernel_rfl) ?_ ?_
        · skip
          refine oneL hA 3 rfl (lo_call fn23 rfl (checkt_g (hg.mono0 hH) _ (by first | assumption | (rw [List.length_map]; assumption) | rfl | exact sha_length _ | (simp; done) | (simp [*]; done) | omega) _ _ (Own.rd0 hO_t43 hH 0 rfl) (by first | omega | (simp; done) | (simp; omega)) (by assumption))) rfl (listed' := #[true, true, true, true, false, false, false, false, false, false]) rfl ?_
          rintro _ w ⟨rfl, hC⟩
          replace hH := HS.call0 hH hC
          clear hC
          refine ⟨fun _ h => absurd h (by decide), ?_⟩
          intro a hA
          refine apq hA 4 rfl (by kernel_rfl) (by intro c a d v w h; cases d <;> exact h) (fun w => (q_move rfl)) rfl (listed' := #[true, true, true, true, true, false, false, false, false, false]) rfl fun a hA => ?_
          refine apq hA 5 rfl (by kernel_rfl) (by intro c a d v w h; cases d <;> exact h) (fun w => (q_extract rfl rfl)) rfl (listed' := #[true, true, true, true, true, true, false, false, false, false]) rfl fun a hA => ?_
          refine apq hA 6 rfl (by kernel_rfl) (by intro c a d v w h; cases d <;> exact h) (fun w => (q_extract rfl rfl)) rfl (listed' := #[true, true, true, true, true, true, true, false, false, false]) rfl fun a hA => ?_
          refine al hA 7 rfl (by kernel_rfl) (lo_allocA hH ti44) rfl (listed' := #[true, true, true, true, true, true, true, true, false, false]) rfl ?_
          clear hH; rintro _ w ⟨b_t11, rfl, hH⟩
          replace hH : HS _ _ _ ([(b_t11, Obj.cells ((List.replicate 6 (0 : Int)).map I).toArray 44 (0, 0))] :: _) := hH
          have hS' := hH.pick [2, 3, 4] (Hs' := [_, _, _]) rfl
          replace hS := hS'; clear hS'
          refine ⟨fun _ _ => hS, ?_⟩
          intro a hA
          refine al0 hA 8 rfl (by kernel_rfl) (lo_storeAm hH ti44 rfl rfl (by first | (simp; done) | (rw [List.length_map]; assumption) | rfl | (simp [*]; done)) (by first | (simp; done) | (rw [List.length_map]; assumption) | rfl | (simp [*]; done)) (one_I _)) (listed' := #[true, true, true, true, true, true, true, true, true, false]) rfl ?_
          clear hH; rintro _ w hH
          refine ⟨fun _ h => absurd h (by decide), ?_⟩
          refine apq hA 9 rfl (by kernel_rfl) (by intro c a d v w h; cases d <;> exact h) (fun w => (q_assign rfl)) rfl (listed' := #[true, true, true, true, true, true, true, true, true, true]) rfl fun a hA => ?_
          refine a_end (by kernel_rfl) ?_ _
          refine hK17 _ _ ?_
          clear hK17
          replace hA := hA.sub (E' := [(12, _), (11, _), (8, _), (6, _), (4, _), (3, _), (2, _)]) ⟨rfl, rfl, rfl, rfl, rfl, rfl, rfl, trivial⟩
          refine wp_seq_k fun K18 hK18 => ?_
          refine wp_region_lit ?_
          refine sq hA (q_loadW hH 4 rfl Tryd.underlying42 rfl ti42 rfl (by first | omega | (simp; done) | (simp; omega) | (rw [List.length_map]; assumption) | assumption | rfl | (simp [*]; done) | (simp [*]; omega))) rfl fun a hA => ?_
          refine sq hA (q_loadW hH 0 rfl Tryd.underlying44 rfl ti44 rfl (by first | omega | (simp; done) | (simp; omega) | (rw [List.length_map]; assumption) | assumption | rfl | (simp [*]; done) | (simp [*]; omega))) rfl fun a hA => ?_
          refine sl hA (lo_call fn26 rfl (maket_g (hg.mono0 hH) _ (by first | assumption | (rw [List.length_map]; assumption) | rfl | exact sha_length _ | (simp; done) | (simp [*]; done) | omega) _ (by first | assumption | (rw [List.length_map]; assumption) | rfl | exact sha_length _ | (simp; done) | (simp [*]; done) | omega) (by assumption))) rfl ?_
          rintro _ w ⟨v_t50, N_t50, rfl, hO_t50, hC⟩ a hA
          replace hH := HS.call0 hH hC
          clear hC
          refine sq hA (q_move rfl) rfl fun a hA => ?_
          refine sq hA (q_extract rfl rfl) rfl fun a hA => ?_
          refine sq hA (q_extract rfl rfl) rfl fun a hA => ?_
          refine sq hA (q_assign rfl) rfl fun a hA => ?_
          refine sq hA (q_assign rfl) rfl fun a hA => ?_
          refine wpList_nil ?_
          refine hK18 _ _ ?_
          clear hK18
          replace hA := hA.sub (E' := [(14, _), (13, _), (12, _), (8, _), (6, _), (4, _), (2, _)]) ⟨rfl, rfl, rfl, rfl, rfl, rfl, rfl, trivial⟩
          refine wp_seq_k fun K19 hK19 => ?_
          refine wp_region_lit ?_
          refine sq hA (q_move rfl) rfl fun a hA => ?_
          refine sq hA (q_eqlI (n := 0) rfl rfl) rfl fun a hA => ?_
          refine sq hA (q_loadW hH 4 rfl Tryd.underlying44 rfl ti44 rfl (by first | omega | (simp; done) | (simp; omega) | (rw [List.length_map]; assumption) | assumption | rfl | (simp [*]; done) | (simp [*]; omega))) rfl fun a hA => ?_
          refine sl hA (lo_call fn27 rfl (rightT_any _ (by first | assumption | (rw [List.length_map]; assumption) | rfl | exact sha_length _ | (simp; done) | (simp [*]; done) | omega))) rfl ?_
          rintro _ w ⟨rfl, hC⟩ a hA
          replace hH := HS.call0 hH hC
          clear hC
          refine sq hA (q_eqlB Tryd.underlying4 rfl rfl) rfl fun a hA => ?_
          replace hA := hA.decT (by exact hd)
          refine sq hA (q_move rfl) rfl fun a hA => ?_
          refine gq hA rfl rfl (q_move rfl) rfl fun a hA => ?_
          refine gq hA rfl rfl (q_neqI (n := 0) rfl rfl) rfl fun a hA => ?_
          refine hA.spl (fun hs60 hA => ?_) (fun hs60 hA => ?_)
          · skip
            refine gq hA rfl rfl (q_move rfl) rfl fun a hA => ?_
            refine gs hA rfl rfl rfl rfl fun a hA => ?_
            refine gs hA rfl rfl rfl rfl fun a hA => ?_
            refine gsU hA rfl rfl rfl rfl fun a hA => ?_
            refine gs0U hA rfl rfl rfl fun a hA => ?_
            refine gs0U hA rfl rfl rfl fun a hA => ?_
            refine gs0U hA rfl rfl rfl fun a hA => ?_
            refine gs hA rfl rfl rfl rfl fun a hA => ?_
            refine gq hA rfl rfl (q_pick_t rfl rfl) rfl fun a hA => ?_
            refine sq hA (q_pick_t rfl rfl) rfl fun a hA => ?_
            refine sq hA (q_move rfl) rfl fun a hA => ?_
            refine gl hA rfl rfl (lo_call fn22 rfl (awake17_any (hg.mono0 hH))) rfl ?_
            rintro _ w ⟨rfl, hC⟩ a hA
            replace hH := HS.call0 hH hC
            clear hC
            refine sq hA (q_pick_t rfl rfl) rfl fun a hA => ?_
            refine sq hA (q_assign rfl) rfl fun a hA => ?_
            refine wpList_nil ?_
            refine hK19 _ _ ?_
            clear hK19
            replace hA := hA.sub (E' := [(6, _)]) ⟨rfl, trivial⟩
            refine wp_ret ?_
            refine post_ret hA (res_1 rfl hA rfl) ?_
            replace hH := hH.pick [] (Hs' := []) rfl
            exact ⟨_, rfl, rfl, hH⟩
          · skip
            refine gq hA rfl rfl (q_move rfl) rfl fun a hA => ?_
            refine gq hA rfl rfl (q_move rfl) rfl fun a hA => ?_
            refine gq hA rfl rfl (q_eqlI (n := 0) rfl rfl) rfl fun a hA => ?_
            replace hA := hA.decT (by rw [hju (by omega)]; rfl)
            refine gq hA rfl rfl (q_move rfl) rfl fun a hA => ?_
            refine gq hA rfl rfl (q_move rfl) rfl fun a hA => ?_
            refine gq hA rfl rfl (q_move rfl) rfl fun a hA => ?_
            refine gl hA rfl rfl (lo_call fn17 rfl (same_any _ _ _ _ (Own.rd0 hO_t50 hH 0 rfl) (hH.rd hr) (by first | omega | (simp; done) | (simp; omega)) (by first | omega | (simp; done) | (simp; omega)))) rfl ?_
            rintro _ w ⟨rfl, hC⟩ a hA
            replace hH := HS.call0 hH hC
            clear hC
            refine gq hA rfl rfl (q_pick_t rfl rfl) rfl fun a hA => ?_
            refine gq hA rfl rfl (q_pick_f rfl rfl) rfl fun a hA => ?_
            refine sq hA (q_pick_t rfl rfl) rfl fun a hA => ?_
            replace hA := hA.decT (by rw [hju (by omega)])
            refine sq hA (q_move rfl) rfl fun a hA => ?_
            refine gl hA rfl rfl (lo_call fn22 rfl (awake17_any (hg.mono0 hH))) rfl ?_
            rintro _ w ⟨rfl, hC⟩ a hA
            replace hH := HS.call0 hH hC
            clear hC
            refine sq hA (q_pick_t rfl rfl) rfl fun a hA => ?_
            refine sq hA (q_assign rfl) rfl fun a hA => ?_
            refine wpList_nil ?_
            refine hK19 _ _ ?_
            clear hK19
            replace hA := hA.sub (E' := [(6, _)]) ⟨rfl, trivial⟩
            refine wp_ret ?_
            refine post_ret hA (res_1 rfl hA rfl) ?_
            replace hH := hH.pick [] (Hs' := []) rfl
            exact ⟨_, rfl, rfl, hH⟩
        · skip
          refine oneL hA 7 rfl (lo_allocA hH ti44) rfl (listed' := #[true, true, true, false, false, false, false, true, false, false]) rfl ?_
          clear hH; rintro _ w ⟨b_t11, rfl, hH⟩
          replace hH : HS _ _ _ ([(b_t11, Obj.cells ((List.replicate 6 (0 : Int)).map I).toArray 44 (0, 0))] :: _) := hH
          have hS' := hH.pick [2, 3, 4] (Hs' := [_, _, _]) rfl
          replace hS := hS'; clear hS'
          refine ⟨fun _ _ => hS, ?_⟩
          intro a hA
          refine al hA 3 rfl (by kernel_rfl) (lo_call fn23 rfl (checkt_g (hg.mono0 hH) _ (by first | assumption | (rw [List.length_map]; assumption) | rfl | exact sha_length _ | (simp; done) | (simp [*]; done) | omega) _ _ (Own.rd0 hO_t43 hH 1 rfl) (by first | omega | (simp; done) | (simp; omega)) (by assumption))) rfl (listed' := #[true, true, true, true, false, false, false, true, false, false]) rfl ?_
          rintro _ w ⟨rfl, hC⟩
          replace hH := HS.call0 hH hC
          clear hC
          refine ⟨fun _ h => absurd h (by decide), ?_⟩
          intro a hA
          refine apq hA 4 rfl (by kernel_rfl) (by intro c a d v w h; cases d <;> exact h) (fun w => (q_move rfl)) rfl (listed' := #[true, true, true, true, true, false, false, true, false, false]) rfl fun a hA => ?_
          refine apq hA 5 rfl (by kernel_rfl) (by intro c a d v w h; cases d <;> exact h) (fun w => (q_extract rfl rfl)) rfl (listed' := #[true, true, true, true, true, true, false, true, false, false]) rfl fun a hA => ?_
          refine apq hA 6 rfl (by kernel_rfl) (by intro c a d v w h; cases d <;> exact h) (fun w => (q_extract rfl rfl)) rfl (listed' := #[true, true, true, true, true, true, true, true, false, false]) rfl fun a hA => ?_
          refine al0 hA 8 rfl (by kernel_rfl) (lo_storeAm hH ti44 rfl rfl (by first | (simp; done) | (rw [List.length_map]; assumption) | rfl | (simp [*]; done)) (by first | (simp; done) | (rw [List.length_map]; assumption) | rfl | (simp [*]; done)) (one_I _)) (listed' := #[true, true, true, true, true, true, true, true, true, false]) rfl ?_
          clear hH; rintro _ w hH
          refine ⟨fun _ h => absurd h (by decide), ?_⟩
          refine apq hA 9 rfl (by kernel_rfl) (by intro c a d v w h; cases d <;> exact h) (fun w => (q_assign rfl)) rfl (listed' := #[true, true, true, true, true, true, true, true, true, true]) rfl fun a hA => ?_
          refine a_end (by kernel_rfl) ?_ _
          refine hK17 _ _ ?_
          clear hK17
          replace hA := hA.sub (E' := [(12, _), (11, _), (8, _), (6, _), (4, _), (3, _), (2, _)]) ⟨rfl, rfl, rfl, rfl, rfl, rfl, rfl, trivial⟩
          refine wp_seq_k fun K20 hK20 => ?_
          refine wp_region_lit ?_
          refine sq hA (q_loadW hH 4 rfl Tryd.underlying42 rfl ti42 rfl (by first | omega | (simp; done) | (simp; omega) | (rw [List.length_map]; assumption) | assumption | rfl | (simp [*]; done) | (simp [*]; omega))) rfl fun a hA => ?_
          refine sq hA (q_loadW hH 0 rfl Tryd.underlying44 rfl ti44 rfl (by first | omega | (simp; done) | (simp; omega) | (rw [List.length_map]; assumption) | assumption | rfl | (simp [*]; done) | (simp [*]; omega))) rfl fun a hA => ?_
          refine sl hA (lo_call fn26 rfl (maket_g (hg.mono0 hH) _ (by first | assumption | (rw [List.length_map]; assumption) | rfl | exact sha_length _ | (simp; done) | (simp [*]; done) | omega) _ (by first | assumption | (rw [List.length_map]; assumption) | rfl | exact sha_length _ | (simp; done) | (simp [*]; done) | omega) (by assumption))) rfl ?_
          rintro _ w ⟨v_t50, N_t50, rfl, hO_t50, hC⟩ a hA
          replace hH := HS.call0 hH hC
          clear hC
          refine sq hA (q_move rfl) rfl fun a hA => ?_
          refine sq hA (q_extract rfl rfl) rfl fun a hA => ?_
          refine sq hA (q_extract rfl rfl) rfl fun a hA => ?_
          refine sq hA (q_assign rfl) rfl fun a hA => ?_
          refine sq hA (q_assign rfl) rfl fun a hA => ?_
          refine wpList_nil ?_
          refine hK20 _ _ ?_
          clear hK20
          replace hA := hA.sub (E' := [(14, _), (13, _), (12, _), (8, _), (6, _), (4, _), (2, _)]) ⟨rfl, rfl, rfl, rfl, rfl, rfl, rfl, trivial⟩
          refine wp_seq_k fun K21 hK21 => ?_
          refine wp_region_lit ?_
          refine sq hA (q_move rfl) rfl fun a hA => ?_
          refine sq hA (q_eqlI (n := 0) rfl rfl) rfl fun a hA => ?_
          refine sq hA (q_loadW hH 4 rfl Tryd.underlying44 rfl ti44 rfl (by first | omega | (simp; done) | (simp; omega) | (rw [List.length_map]; assumption) | assumption | rfl | (simp [*]; done) | (simp [*]; omega))) rfl fun a hA => ?_
          refine sl hA (lo_call fn27 rfl (rightT_any _ (by first | assumption | (rw [List.length_map]; assumption) | rfl | exact sha_length _ | (simp; done) | (simp [*]; done) | omega))) rfl ?_
          rintro _ w ⟨rfl, hC⟩ a hA
          replace hH := HS.call0 hH hC
          clear hC
          refine sq hA (q_eqlB Tryd.underlying4 rfl rfl) rfl fun a hA => ?_
          replace hA := hA.decT (by exact hd)
          refine sq hA (q_move rfl) rfl fun a hA => ?_
          refine gq hA rfl rfl (q_move rfl) rfl fun a hA => ?_
          refine gq hA rfl rfl (q_neqI (n := 0) rfl rfl) rfl fun a hA => ?_
          refine hA.spl (fun hs60 hA => ?_) (fun hs60 hA => ?_)
          · skip
            refine gq hA rfl rfl (q_move rfl) rfl fun a hA => ?_
            refine gs hA rfl rfl rfl rfl fun a hA => ?_
            refine gs hA rfl rfl rfl rfl fun a hA => ?_
            refine gsU hA rfl rfl rfl rfl fun a hA => ?_
            refine gs0U hA rfl rfl rfl fun a hA => ?_
            refine gs0U hA rfl rfl rfl fun a hA => ?_
            refine gs0U hA rfl rfl rfl fun a hA => ?_
            refine gs hA rfl rfl rfl rfl fun a hA => ?_
            refine gq hA rfl rfl (q_pick_t rfl rfl) rfl fun a hA => ?_
            refine sq hA (q_pick_t rfl rfl) rfl fun a hA => ?_
            refine sq hA (q_move rfl) rfl fun a hA => ?_
            refine gl hA rfl rfl (lo_call fn22 rfl (awake17_any (hg.mono0 hH))) rfl ?_
            rintro _ w ⟨rfl, hC⟩ a hA
            replace hH := HS.call0 hH hC
            clear hC
            refine sq hA (q_pick_t rfl rfl) rfl fun a hA => ?_
            refine sq hA (q_assign rfl) rfl fun a hA => ?_
            refine wpList_nil ?_
            refine hK21 _ _ ?_
            clear hK21
            replace hA := hA.sub (E' := [(6, _)]) ⟨rfl, trivial⟩
            refine wp_ret ?_
            refine post_ret hA (res_1 rfl hA rfl) ?_
            replace hH := hH.pick [] (Hs' := []) rfl
            exact ⟨_, rfl, rfl, hH⟩
          · skip
            refine gq hA rfl rfl (q_move rfl) rfl fun a hA => ?_
            refine gq hA rfl rfl (q_move rfl) rfl fun a hA => ?_
            refine gq hA rfl rfl (q_eqlI (n := 0) rfl rfl) rfl fun a hA => ?_
            replace hA := hA.decT (by rw [hju (by omega)]; rfl)
            refine gq hA rfl rfl (q_move rfl) rfl fun a hA => ?_
            refine gq hA rfl rfl (q_move rfl) rfl fun a hA => ?_
            refine gq hA rfl rfl (q_move rfl) rfl fun a hA => ?_
            refine gl hA rfl rfl (lo_call fn17 rfl (same_any _ _ _ _ (Own.rd0 hO_t50 hH 0 rfl) (hH.rd hr) (by first | omega | (simp; done) | (simp; omega)) (by first | omega | (simp; done) | (simp; omega)))) rfl ?_
            rintro _ w ⟨rfl, hC⟩ a hA
            replace hH := HS.call0 hH hC
            clear hC
            refine gq hA rfl rfl (q_pick_t rfl rfl) rfl fun a hA => ?_
            refine gq hA rfl rfl (q_pick_f rfl rfl) rfl fun a hA => ?_
            refine sq hA (q_pick_t rfl rfl) rfl fun a hA => ?_
            replace hA := hA.decT (by rw [hju (by omega)])
            refine sq hA (q_move rfl) rfl fun a hA => ?_
            refine gl hA rfl rfl (lo_call fn22 rfl (awake17_any (hg.mono0 hH))) rfl ?_
            rintro _ w ⟨rfl, hC⟩ a hA
            replace hH := HS.call0 hH hC
            clear hC
            refine sq hA (q_pick_t rfl rfl) rfl fun a hA => ?_
            refine sq hA (q_assign rfl) rfl fun a hA => ?_
            refine wpList_nil ?_
            refine hK21 _ _ ?_
            clear hK21
            replace hA := hA.sub (E' := [(6, _)]) ⟨rfl, trivial⟩
            refine wp_ret ?_
            refine post_ret hA (res_1 rfl hA rfl) ?_
            replace hH := hH.pick [] (Hs' := []) rfl
            exact ⟨_, rfl, rfl, hH⟩
      · skip
        refine oneL hA 7 rfl (lo_allocA hH ti44) rfl (listed' := #[true, true, false, false, false, false, false, true, false, false]) rfl ?_
        clear hH; rintro _ w ⟨b_t11, rfl, hH⟩
        replace hH : HS _ _ _ ([(b_t11, Obj.cells ((List.replicate 6 (0 : Int)).map I).toArray 44 (0, 0))] :: _) := hH
        have hS' := hH.pick [1, 2, 3] (Hs' := [_, _, _]) rfl
        replace hS := hS'; clear hS'
        refine ⟨fun _ _ => hS, ?_⟩
        intro a hA
        refine al hA 2 rfl (by kernel_rfl) (lo_call fn24 rfl (own17_any _ _ (hH.rd hr) (by first | omega | (simp; done) | (simp; omega)))) rfl (listed' := #[true, true, true, false, false, false, false, true, false, false]) rfl ?_
        rintro _ w ⟨v_t43, N_t43, rfl, hO_t43, hC⟩
        replace hH := HS.call0 hH hC
        clear hC
        have hS' := hH.pick [2, 3, 4] (Hs' := [_, _, _]) rfl
        replace hS := hS'; clear hS'
        refine ⟨fun _ _ => hS, ?_⟩
        intro a hA
        refine al hA 3 rfl (by kernel_rfl) (lo_call fn23 rfl (checkt_g (hg.mono0 hH) _ (by first | assumption | (rw [List.length_map]; assumption) | rfl | exact sha_length _ | (simp; done) | (simp [*]; done) | omega) _ _ (Own.rd0 hO_t43 hH 0 rfl) (by first | omega | (simp; done) | (simp; omega)) (by assumption))) rfl (listed' := #[true, true, true, true, false, false, false, true, false, false]) rfl ?_
        rintro _ w ⟨rfl, hC⟩
        replace hH := HS.call0 hH hC
        clear hC
        refine ⟨fun _ h => absurd h (by decide), ?_⟩
        intro a hA
        refine apq hA 4 rfl (by kernel_rfl) (by intro c a d v w h; cases d <;> exact h) (fun w => (q_move rfl)) rfl (listed' := #[true, true, true, true, true, false, false, true, false, false]) rfl fun a hA => ?_
        refine apq hA 5 rfl (by kernel_rfl) (by intro c a d v w h; cases d <;> exact h) (fun w => (q_extract rfl rfl)) rfl (listed' := #[true, true, true, true, true, true, false, true, false, false]) rfl fun a hA => ?_
        refine apq hA 6 rfl (by kernel_rfl) (by intro c a d v w h; cases d <;> exact h) (fun w => (q_extract rfl rfl)) rfl (listed' := #[true, true, true, true, true, true, true, true, false, false]) rfl fun a hA => ?_
        replace hH := hH.pick [1, 0, 2, 3, 4] (Hs' := [_, _, _, _, _]) rfl
        refine al0 hA 8 rfl (by kernel_rfl) (lo_storeAm hH ti44 rfl rfl (by first | (simp; done) | (rw [List.length_map]; assumption) | rfl | (simp [*]; done)) (by first | (simp; done) | (rw [List.length_map]; assumption) | rfl | (simp [*]; done)) (one_I _)) (listed' := #[true, true, true, true, true, true, true, true, true, false]) rfl ?_
        clear hH; rintro _ w hH
        refine ⟨fun _ h => absurd h (by decide), ?_⟩
        refine apq hA 9 rfl (by kernel_rfl) (by intro c a d v w h; cases d <;> exact h) (fun w => (q_assign rfl)) rfl (listed' := #[true, true, true, true, true, true, true, true, true, true]) rfl fun a hA => ?_
        refine a_end (by kernel_rfl) ?_ _
        refine hK17 _ _ ?_
        clear hK17
        replace hA := hA.sub (E' := [(12, _), (11, _), (8, _), (6, _), (4, _), (3, _), (2, _)]) ⟨rfl, rfl, rfl, rfl, rfl, rfl, rfl, trivial⟩
        refine wp_seq_k fun K22 hK22 => ?_
        refine wp_region_lit ?_
        refine sq hA (q_loadW hH 4 rfl Tryd.underlying42 rfl ti42 rfl (by first | omega | (simp; done) | (simp; omega) | (rw [List.length_map]; assumption) | assumption | rfl | (simp [*]; done) | (simp [*]; omega))) rfl fun a hA => ?_
        refine sq hA (q_loadW hH 0 rfl Tryd.underlying44 rfl ti44 rfl (by first | omega | (simp; done) | (simp; omega) | (rw [List.length_map]; assumption) | assumption | rfl | (simp [*]; done) | (simp [*]; omega))) rfl fun a hA => ?_
        refine sl hA (lo_call fn26 rfl (maket_g (hg.mono0 hH) _ (by first | assumption | (rw [List.length_map]; assumption) | rfl | exact sha_length _ | (simp; done) | (simp [*]; done) | omega) _ (by first | assumption | (rw [List.length_map]; assumption) | rfl | exact sha_length _ | (simp; done) | (simp [*]; done) | omega) (by assumption))) rfl ?_
        rintro _ w ⟨v_t50, N_t50, rfl, hO_t50, hC⟩ a hA
        replace hH := HS.call0 hH hC
        clear hC
        refine sq hA (q_move rfl) rfl fun a hA => ?_
        refine sq hA (q_extract rfl rfl) rfl fun a hA => ?_
        refine sq hA (q_extract rfl rfl) rfl fun a hA => ?_
        refine sq hA (q_assign rfl) rfl fun a hA => ?_
        refine sq hA (q_assign rfl) rfl fun a hA => ?_
        refine wpList_nil ?_
        refine hK22 _ _ ?_
        clear hK22
        replace hA := hA.sub (E' := [(14, _), (13, _), (12, _), (8, _), (6, _), (4, _), (2, _)]) ⟨rfl, rfl, rfl, rfl, rfl, rfl, rfl, trivial⟩
        refine wp_seq_k fun K23 hK23 => ?_
        refine wp_region_lit ?_
        refine sq hA (q_move rfl) rfl fun a hA => ?_
        refine sq hA (q_eqlI (n := 0) rfl rfl) rfl fun a hA => ?_
        refine sq hA (q_loadW hH 4 rfl Tryd.underlying44 rfl ti44 rfl (by first | omega | (simp; done) | (simp; omega) | (rw [List.length_map]; assumption) | assumption | rfl | (simp [*]; done) | (simp [*]; omega))) rfl fun a hA => ?_
        refine sl hA (lo_call fn27 rfl (rightT_any _ (by first | assumption | (rw [List.length_map]; assumption) | rfl | exact sha_length _ | (simp; done) | (simp [*]; done) | omega))) rfl ?_
        rintro _ w ⟨rfl, hC⟩ a hA
        replace hH := HS.call0 hH hC
        clear hC
        refine sq hA (q_eqlB Tryd.underlying4 rfl rfl) rfl fun a hA => ?_
        replace hA := hA.decT (by exact hd)
        refine sq hA (q_move rfl) rfl fun a hA => ?_
        refine gq hA rfl rfl (q_move rfl) rfl fun a hA => ?_
        refine gq hA rfl rfl (q_neqI (n := 0) rfl rfl) rfl fun a hA => ?_
        refine hA.spl (fun hs60 hA => ?_) (fun hs60 hA => ?_)
        · skip
          refine gq hA rfl rfl (q_move rfl) rfl fun a hA => ?_
          refine gs hA rfl rfl rfl rfl fun a hA => ?_
          refine gs hA rfl rfl rfl rfl fun a hA => ?_
          refine gsU hA rfl rfl rfl rfl fun a hA => ?_
          refine gs0U hA rfl rfl rfl fun a hA => ?_
          refine gs0U hA rfl rfl rfl fun a hA => ?_
          refine gs0U hA rfl rfl rfl fun a hA => ?_
          refine gs hA rfl rfl rfl rfl fun a hA => ?_
          refine gq hA rfl rfl (q_pick_t rfl rfl) rfl fun a hA => ?_
          refine sq hA (q_pick_t rfl rfl) rfl fun a hA => ?_
          refine sq hA (q_move rfl) rfl fun a hA => ?_
          refine gl hA rfl rfl (lo_call fn22 rfl (awake17_any (hg.mono0 hH))) rfl ?_
          rintro _ w ⟨rfl, hC⟩ a hA
          replace hH := HS.call0 hH hC
          clear hC
          refine sq hA (q_pick_t rfl rfl) rfl fun a hA => ?_
          refine sq hA (q_assign rfl) rfl fun a hA => ?_
          refine wpList_nil ?_
          refine hK23 _ _ ?_
          clear hK23
          replace hA := hA.sub (E' := [(6, _)]) ⟨rfl, trivial⟩
          refine wp_ret ?_
          refine post_ret hA (res_1 rfl hA rfl) ?_
          replace hH := hH.pick [] (Hs' := []) rfl
          exact ⟨_, rfl, rfl, hH⟩
        · skip
          refine gq hA rfl rfl (q_move rfl) rfl fun a hA => ?_
          refine gq hA rfl rfl (q_move rfl) rfl fun a hA => ?_
          refine gq hA rfl rfl (q_eqlI (n := 0) rfl rfl) rfl fun a hA => ?_
          replace hA := hA.decT (by rw [hju (by omega)]; rfl)
          refine gq hA rfl rfl (q_move rfl) rfl fun a hA => ?_
          refine gq hA rfl rfl (q_move rfl) rfl fun a hA => ?_
          refine gq hA rfl rfl (q_move rfl) rfl fun a hA => ?_
          refine gl hA rfl rfl (lo_call fn17 rfl (same_any _ _ _ _ (Own.rd0 hO_t50 hH 0 rfl) (hH.rd hr) (by first | omega | (simp; done) | (simp; omega)) (by first | omega | (simp; done) | (simp; omega)))) rfl ?_
          rintro _ w ⟨rfl, hC⟩ a hA
          replace hH := HS.call0 hH hC
          clear hC
          refine gq hA rfl rfl (q_pick_t rfl rfl) rfl fun a hA => ?_
          refine gq hA rfl rfl (q_pick_f rfl rfl) rfl fun a hA => ?_
          refine sq hA (q_pick_t rfl rfl) rfl fun a hA => ?_
          replace hA := hA.decT (by rw [hju (by omega)])
          refine sq hA (q_move rfl) rfl fun a hA => ?_
          refine gl hA rfl rfl (lo_call fn22 rfl (awake17_any (hg.mono0 hH))) rfl ?_
          rintro _ w ⟨rfl, hC⟩ a hA
          replace hH := HS.call0 hH hC
          clear hC
          refine sq hA (q_pick_t rfl rfl) rfl fun a hA => ?_
          refine sq hA (q_assign rfl) rfl fun a hA => ?_
          refine wpList_nil ?_
          refine hK23 _ _ ?_
          clear hK23
          replace hA := hA.sub (E' := [(6, _)]) ⟨rfl, trivial⟩
          refine wp_ret ?_
          refine post_ret hA (res_1 rfl hA rfl) ?_
          replace hH := hH.pick [] (Hs' := []) rfl
          exact ⟨_, rfl, rfl, hH⟩

theorem tokenCuts_bad {w0 : World} {lv : Nat} (hg : Gl lv w0) (s : Bs) (hs : s.length = 32) (ts : List Int) (hts : ts.length = 6) (n : Int) (hn : ¬ RtT ts ∨ n < 0) :
    Calls Tryd.prog 10 #[(.agg ((s).map B8).toArray), (.agg ((ts).map I).toArray), I n] w0 (Ret fun r w' => r = .bool true ∧ HS [] w0 w' []) := by
  have hH := HS.start w0
  refine start (n := 58) (E := [(0, _), (1, _), (2, _)]) Tryd.func10 rfl rfl rfl (args_look rfl) ?_
  intro a hA
  obtain ⟨M, hM⟩ : ∃ x, x = mkT s ts := ⟨_, rfl⟩
  have hmb : M.1.length ≤ 200 := by rw [hM]; exact mkT_bound hts
  have hnl : ¬ M.2 = 0 → M.1 = [] := fun h => by rw [hM]; exact mkT_nil (by rw [← hM]; exact h)
  have hm0 : M.2 = 0 → RtT ts := fun h => mkT_rt (key := s) (by rw [← hM]; exact h)
  refine wp_seq_k fun K1 hK1 => ?_
  refine wp_region_lit ?_
  refine sl hA (lo_boxA hH rfl) rfl ?_
  clear hH; rintro _ w ⟨b_t3, rfl, hH⟩ a hA
  refine sl hA (lo_boxA hH rfl) rfl ?_
  clear hH; rintro _ w ⟨b_t4, rfl, hH⟩ a hA
  refine sq hA (q_assign rfl) rfl fun a hA => ?_
  refine wpList_nil ?_
  refine hK1 _ _ ?_
  clear hK1
  replace hA := hA.sub (E' := [(6, _), (4, _), (3, _), (2, _)]) ⟨rfl, rfl, rfl, rfl, trivial⟩
  refine wp_seq_k fun K2 hK2 => ?_
  refine wp_region_lit ?_
  refine sq hA (q_loadW hH 1 rfl Tryd.underlying42 rfl ti42 rfl (by first | omega | (simp; done) | (simp; omega) | (rw [List.length_map]; assumption) | assumption | rfl | (simp [*]; done) | (simp [*]; omega))) rfl fun a hA => ?_
  refine sq hA (q_loadW hH 0 rfl Tryd.underlying44 rfl ti44 rfl (by first | omega | (simp; done) | (simp; omega) | (rw [List.length_map]; assumption) | assumption | rfl | (simp [*]; done) | (simp [*]; omega))) rfl fun a hA => ?_
  refine sl hA (lo_call fn26 rfl (maket_g (hg.mono0 hH) _ (by first | assumption | (rw [List.length_map]; assumption) | rfl | exact sha_length _ | (simp; done) | (simp [*]; done) | omega) _ (by first | assumption | (rw [List.length_map]; assumption) | rfl | exact sha_length _ | (simp; done) | (simp [*]; done) | omega) (by assumption))) rfl ?_
  rintro _ w ⟨v_t14, N_t14, rfl, hO_t14, hC⟩ a hA
  replace hH := HS.call0 hH hC
  clear hC
  refine sq hA (q_move rfl) rfl fun a hA => ?_
  refine sq hA (q_extract rfl rfl) rfl fun a hA => ?_
  refine sq hA (q_extract rfl rfl) rfl fun a hA => ?_
  refine sq hA (q_assign rfl) rfl fun a hA => ?_
  refine sq hA (q_assign rfl) rfl fun a hA => ?_
  refine wpList_nil ?_
  refine hK2 _ _ ?_
  clear hK2
  replace hA := hA.sub (E' := [(8, _), (7, _), (6, _), (3, _), (2, _)]) ⟨rfl, rfl, rfl, rfl, rfl, trivial⟩
  refine wp_seq_k fun K3 hK3 => ?_
  refine wp_seq_k fun K4 hK4 => ?_
  refine wp_region_lit ?_
  refine sq hA (q_move rfl) rfl fun a hA => ?_
  refine sq hA (q_neqI (n := 0) rfl rfl) rfl fun a hA => ?_
  refine hA.spl (fun hs18 hA => ?_) (fun hs18 hA => ?_)
  · skip
    refine sq hA (q_move rfl) rfl fun a hA => ?_
    refine gs hA rfl rfl rfl rfl fun a hA => ?_
    refine gs hA rfl rfl rfl rfl fun a hA => ?_
    refine sq hA (q_pick_t rfl rfl) rfl fun a hA => ?_
    refine wpList_nil ?_
    refine hK4 _ _ ?_
    clear hK4
    replace hA := hA.sub (E' := [(22, _), (8, _), (7, _), (6, _), (3, _), (2, _)]) ⟨rfl, rfl, rfl, rfl, rfl, rfl, trivial⟩
    refine cond_t hA rfl ?_
    refine wp_seq_k fun K5 hK5 => ?_
    refine wp_region_lit ?_
    refine sq hA (q_move rfl) rfl fun a hA => ?_
    refine sq hA (q_len Tryd.underlying22 rfl (Own.shp hO_t14)) rfl fun a hA => ?_
    refine sq hA (q_eqlI (n := 0) rfl rfl) rfl fun a hA => ?_
    refine hA.spl (fun hs25 hA => ?_) (fun hs25 hA => ?_)
    · skip
      refine sq hA (q_move rfl) rfl fun a hA => ?_
      refine gs hA rfl rfl rfl rfl fun a hA => ?_
      refine gs hA rfl rfl rfl rfl fun a hA => ?_
      refine sq hA (q_pick_t rfl rfl) rfl fun a hA => ?_
      refine sq hA (q_move rfl) rfl fun a hA => ?_
      refine gl hA rfl rfl (lo_call fn22 rfl (awake17_any (hg.mono0 hH))) rfl ?_
      rintro _ w ⟨rfl, hC⟩ a hA
      replace hH := HS.call0 hH hC
      clear hC
      refine sq hA (q_pick_t rfl rfl) rfl fun a hA => ?_
      refine sq hA (q_assign rfl) rfl fun a hA => ?_
      refine wpList_nil ?_
      refine hK5 _ _ ?_
      clear hK5
      replace hA := hA.sub (E' := [(6, _), (7, _), (3, _), (2, _)]) ⟨rfl, rfl, rfl, rfl, trivial⟩
      refine wp_ret ?_
      refine then_ret ?_
      refine post_ret hA (res_1 rfl hA rfl) ?_
      replace hH := hH.pick [] (Hs' := []) rfl
      exact ⟨_, rfl, rfl, hH⟩
    · skip
      refine sq hA (q_move rfl) rfl fun a hA => ?_
      refine gq hA rfl rfl (q_move rfl) rfl fun a hA => ?_
      refine gq hA rfl rfl (q_eqlI (n := 0) rfl rfl) rfl fun a hA => ?_
      refine sq hA (q_pick_f rfl rfl) rfl fun a hA => ?_
      replace hA := hA.decT (by first | omega | (rw [hnl (by omega)] at *; simp at *; done))
      refine sq hA (q_move rfl) rfl fun a hA => ?_
      refine gl hA rfl rfl (lo_call fn22 rfl (awake17_any (hg.mono0 hH))) rfl ?_
      rintro _ w ⟨rfl, hC⟩ a hA
      replace hH := HS.call0 hH hC
      clear hC
      refine sq hA (q_pick_t rfl rfl) rfl fun a hA => ?_
      refine sq hA (q_assign rfl) rfl fun a hA => ?_
      refine wpList_nil ?_
      refine hK5 _ _ ?_
      clear hK5
      replace hA := hA.sub (E' := [(6, _), (7, _), (3, _), (2, _)]) ⟨rfl, rfl, rfl, rfl, trivial⟩
      refine wp_ret ?_
      refine then_ret ?_
      refine post_ret hA (res_1 rfl hA rfl) ?_
      replace hH := hH.pick [] (Hs' := []) rfl
      exact ⟨_, rfl, rfl, hH⟩
  · skip
    refine sq hA (q_move rfl) rfl fun a hA => ?_
    refine gq hA rfl rfl (q_move rfl) rfl fun a hA => ?_
    refine gq hA rfl rfl (q_lssI (n := 0) rfl rfl) rfl fun a hA => ?_
    refine sq hA (q_pick_f rfl rfl) rfl fun a hA => ?_
    refine wpList_nil ?_
    refine hK4 _ _ ?_
    clear hK4
    replace hA := hA.sub (E' := [(22, _), (8, _), (7, _), (6, _), (3, _), (2, _)]) ⟨rfl, rfl, rfl, rfl, rfl, rfl, trivial⟩
    refine cond_d hA rfl (fun _ => ?_) (fun hnn => absurd (by rcases hn with h | h; exact absurd (hm0 (by omega)) h; exact h) hnn)
    refine wp_seq_k fun K6 hK6 => ?_
    refine wp_region_lit ?_
    refine sq hA (q_move rfl) rfl fun a hA => ?_
    refine sq hA (q_len Tryd.underlying22 rfl (Own.shp hO_t14)) rfl fun a hA => ?_
    refine sq hA (q_eqlI (n := 0) rfl rfl) rfl fun a hA => ?_
    refine hA.spl (fun hs25 hA => ?_) (fun hs25 hA => ?_)
    · skip
      refine sq hA (q_move rfl) rfl fun a hA => ?_
      refine gs hA rfl rfl rfl rfl fun a hA => ?_
      refine gs hA rfl rfl rfl rfl fun a hA => ?_
      refine sq hA (q_pick_t rfl rfl) rfl fun a hA => ?_
      refine sq hA (q_move rfl) rfl fun a hA => ?_
      refine gl hA rfl rfl (lo_call fn22 rfl (awake17_any (hg.mono0 hH))) rfl ?_
      rintro _ w ⟨rfl, hC⟩ a hA
      replace hH := HS.call0 hH hC
      clear hC
      refine sq hA (q_pick_t rfl rfl) rfl fun a hA => ?_
      refine sq hA (q_assign rfl) rfl fun a hA => ?_
      refine wpList_nil ?_
      refine hK6 _ _ ?_
      clear hK6
      replace hA := hA.sub (E' := [(6, _), (7, _), (3, _), (2, _)]) ⟨rfl, rfl, rfl, rfl, trivial⟩
      refine wp_ret ?_
      refine then_ret ?_
      refine post_ret hA (res_1 rfl hA rfl) ?_
      replace hH := hH.pick [] (Hs' := []) rfl
      exact ⟨_, rfl, rfl, hH⟩
    · skip
      refine sq hA (q_move rfl) rfl fun a hA => ?_
      refine gq hA rfl rfl (q_move rfl) rfl fun a hA => ?_
      refine gq hA rfl rfl (q_eqlI (n := 0) rfl rfl) rfl fun a hA => ?_
      refine sq hA (q_pick_f rfl rfl) rfl fun a hA => ?_
      replace hA := hA.decT (by first | omega | (rw [hnl (by omega)] at *; simp at *; done))
      refine sq hA (q_move rfl) rfl fun a hA => ?_
      refine gl hA rfl rfl (lo_call fn22 rfl (awake17_any (hg.mono0 hH))) rfl ?_
      rintro _ w ⟨rfl, hC⟩ a hA
      replace hH := HS.call0 hH hC
      clear hC
      refine sq hA (q_pick_t rfl rfl) rfl fun a hA => ?_
      refine sq hA (q_assign rfl) rfl fun a hA => ?_
      refine wpList_nil ?_
      refine hK6 _ _ ?_
      clear hK6
      replace hA := hA.sub (E' := [(6, _), (7, _), (3, _), (2, _)]) ⟨rfl, rfl, rfl, rfl, trivial⟩
      refine wp_ret ?_
      refine then_ret ?_
      refine post_ret hA (res_1 rfl hA rfl) ?_
      replace hH := hH.pick [] (Hs' := []) rfl
      exact ⟨_, rfl, rfl, hH⟩

theorem tokenCuts_ok {w0 : World} {lv : Nat} (hg : Gl lv w0) (s : Bs) (hs : s.length = 32) (ts : List Int) (hts : ts.length = 6) (n : Nat) (hn9 : n ≤ 9223372036854775807) (hrt : RtT ts) :
    Calls Tryd.prog 10 #[(.agg ((s).map B8).toArray), (.agg ((ts).map I).toArray), I n] w0 (Ret fun r w' => r = .bool true ∧ HS [] w0 w' []) := by
  have hH := HS.start w0
  refine start (n := 58) (E := [(0, _), (1, _), (2, _)]) Tryd.func10 rfl rfl rfl (args_look rfl) ?_
  intro a hA
  obtain ⟨M, hM⟩ : ∃ x, x = mkT s ts := ⟨_, rfl⟩
  have hmb : M.1.length ≤ 200 := by rw [hM]; exact mkT_bound hts
  have hml : M.1.length = (bodyT ts).length + 32 := by rw [hM]; exact mkT_len hrt
  have hm2 : M.2 = 0 := by rw [hM, mkT_ok hrt]
  obtain ⟨C, hC⟩ : ∃ x, x = chkT s ([] ++ M.1.take (n % M.1.length)) := ⟨_, rfl⟩
  have hck : C = (List.replicate 6 0, 40) := by rw [hC, hM]; exact chkT_cut hrt hts (by rw [← hM]; exact Nat.mod_lt _ (by omega))
  have hcl : C.1.length = 6 := by rw [hck]; rfl
  refine wp_seq_k fun K1 hK1 => ?_
  refine wp_region_lit ?_
  refine sl hA (lo_boxA hH rfl) rfl ?_
  clear hH; rintro _ w ⟨b_t3, rfl, hH⟩ a hA
  refine sl hA (lo_boxA hH rfl) rfl ?_
  clear hH; rintro _ w ⟨b_t4, rfl, hH⟩ a hA
  refine sq hA (q_assign rfl) rfl fun a hA => ?_
  refine wpList_nil ?_
  refine hK1 _ _ ?_
  clear hK1
  replace hA := hA.sub (E' := [(6, _), (4, _), (3, _), (2, _)]) ⟨rfl, rfl, rfl, rfl, trivial⟩
  refine wp_seq_k fun K2 hK2 => ?_
  refine wp_region_lit ?_
  refine sq hA (q_loadW hH 1 rfl Tryd.underlying42 rfl ti42 rfl (by first | omega | (simp; done) | (simp; omega) | (rw [List.length_map]; assumption) | assumption | rfl | (simp [*]; done) | (simp [*]; omega))) rfl fun a hA => ?_
  refine sq hA (q_loadW hH 0 rfl Tryd.underlying44 rfl ti44 rfl (by first | omega | (simp; done) | (simp; omega) | (rw [List.length_map]; assumption) | assumption | rfl | (simp [*]; done) | (simp [*]; omega))) rfl fun a hA => ?_
  refine sl hA (lo_call fn26 rfl (maket_g (hg.mono0 hH) _ (by first | assumption | (rw [List.length_map]; assumption) | rfl | exact sha_length _ | (simp; done) | (simp [*]; done) | omega) _ (by first | assumption | (rw [List.length_map]; assumption) | rfl | exact sha_length _ | (simp; done) | (simp [*]; done) | omega) (by assumption))) rfl ?_
  rintro _ w ⟨v_t14, N_t14, rfl, hO_t14, hC⟩ a hA
  replace hH := HS.call0 hH hC
  clear hC
  refine sq hA (q_move rfl) rfl fun a hA => ?_
  refine sq hA (q_extract rfl rfl) rfl fun a hA => ?_
  refine sq hA (q_extract rfl rfl) rfl fun a hA => ?_
  refine sq hA (q_assign rfl) rfl fun a hA => ?_
  refine sq hA (q_assign rfl) rfl fun a hA => ?_
  refine wpList_nil ?_
  refine hK2 _ _ ?_
  clear hK2
  replace hA := hA.sub (E' := [(8, _), (7, _), (6, _), (3, _), (2, _)]) ⟨rfl, rfl, rfl, rfl, rfl, trivial⟩
  refine wp_seq_k fun K3 hK3 => ?_
  refine wp_seq_k fun K4 hK4 => ?_
  refine wp_region_lit ?_
  refine sq hA (q_move rfl) rfl fun a hA => ?_
  refine sq hA (q_neqI (n := 0) rfl rfl) rfl fun a hA => ?_
  replace hA := hA.decF (by rw [hm2]; decide)
  refine sq hA (q_move rfl) rfl fun a hA => ?_
  refine gq hA rfl rfl (q_move rfl) rfl fun a hA => ?_
  refine gq hA rfl rfl (q_lssI (n := 0) rfl rfl) rfl fun a hA => ?_
  refine sq hA (q_pick_f rfl rfl) rfl fun a hA => ?_
  refine wpList_nil ?_
  refine hK4 _ _ ?_
  clear hK4
  replace hA := hA.sub (E' := [(22, _), (8, _), (7, _), (6, _), (3, _), (2, _)]) ⟨rfl, rfl, rfl, rfl, rfl, rfl, trivial⟩
  refine cond_d hA rfl (fun hnn => absurd hnn (by omega)) (fun _ => ?_)
  refine wp_skip ?_
  refine hK3 _ _ ?_
  clear hK3
  replace hA := hA.sub (E' := [(7, _), (6, _), (3, _), (2, _)]) ⟨rfl, rfl, rfl, rfl, trivial⟩
  refine wp_seq_k fun K5 hK5 => ?_
  refine wp_seq_k fun K6 hK6 => ?_
  refine wp_region_lit ?_
  refine sq hA (q_move rfl) rfl fun a hA => ?_
  refine sq hA (q_len Tryd.underlying22 rfl (Own.shp hO_t14)) rfl fun a hA => ?_
  refine sq hA (q_eqlI (n := 0) rfl rfl) rfl fun a hA => ?_
  replace hA := hA.decF (by omega)
  refine wpList_nil ?_
  refine hK6 _ _ ?_
  clear hK6
  replace hA := hA.sub (E' := [(35, _), (7, _), (6, _), (3, _), (2, _)]) ⟨rfl, rfl, rfl, rfl, rfl, trivial⟩
  refine cond_f hA rfl ?_
  refine wp_skip ?_
  refine hK5 _ _ ?_
  clear hK5
  replace hA := hA.sub (E' := [(7, _), (6, _), (3, _), (2, _)]) ⟨rfl, rfl, rfl, rfl, trivial⟩
  refine wp_seq_k fun K7 hK7 => ?_
  refine any_go mixed (fun j => !(Nat.beq j 8 || Nat.beq j 13)) hH ?_
  clear hH; intro w hH
  have hS := hH
  change wpK _ _ _ _ _ _ 15 #[false, false, false, false, false, false, false, false, false, false, false, false, false, false, false] _ _
  refine aq hA 0 rfl (by kernel_rfl) (by intro c a d v w h; cases d <;> exact h) hS (fun w hH => (q_loadW hH 2 rfl Tryd.underlying42 rfl ti42 rfl (by first | omega | (simp; done) | (simp; omega) | (rw [List.length_map]; assumption) | assumption | rfl | (simp [*]; done) | (simp [*]; omega)))) rfl (listed' := #[true, false, false, false, false, false, false, false, false, false, false, false, false, false, false]) rfl fun a hA => ?_
  refine apq hA 1 rfl (by kernel_rfl) (by intro c a d v w h; cases d <;> exact h) (fun w => (q_move rfl)) rfl (listed' := #[true, true, false, false, false, false, false, false, false, false, false, false, false, false, false]) rfl fun a hA => ?_
  refine apq hA 2 rfl (by kernel_rfl) (by intro c a d v w h; cases d <;> exact h) (fun w => (q_move rfl)) rfl (listed' := #[true, true, true, false, false, false, false, false, false, false, false, false, false, false, false]) rfl fun a hA => ?_
  refine apq hA 3 rfl (by kernel_rfl) (by intro c a d v w h; cases d <;> exact h) (fun w => (q_move rfl)) rfl (listed' := #[true, true, true, true, false, false, false, false, false, false, false, false, false, false, false]) rfl fun a hA => ?_
  refine apq hA 4 rfl (by kernel_rfl) (by intro c a d v w h; cases d <;> exact h) (fun w => (q_len Tryd.underlying22 rfl (Own.shp hO_t14))) rfl (listed' := #[true, true, true, true, true, false, false, false, false, false, false, false, false, false, false]) rfl fun a hA => ?_
  refine apq hA 5 rfl (by kernel_rfl) (by intro c a d v w h; cases d <;> exact h) (fun w => (q_remI rfl rfl (by omega))) rfl (listed' := #[true, true, true, true, true, true, false, false, false, false, false, false, false, false, false]) rfl fun a hA => ?_
  rw [show ((n : Int) % ((M.1.length : Nat) : Int)) = ((n % M.1.length : Nat) : Int) from rfl] at hA
  obtain ⟨v_t43, hv_t43, hO_t43⟩ := Ow.cut0 hO_t14 (n % M.1.length) (by first | omega | exact Nat.le_of_lt (Nat.mod_lt _ (by omega)))
  refine apq hA 6 rfl (by kernel_rfl) (by intro c a d v w h; cases d <;> exact h) (fun w => (q_slice Tryd.underlying22 ti5 rfl (0) (n % M.1.length) hv_t43 (Own.shp hO_t14) rfl rfl (rfl) (rfl) (by first | omega | exact Nat.le_of_lt (Nat.mod_lt _ (by omega))) (by first | omega | exact Nat.le_of_lt (Nat.mod_lt _ (by omega))))) rfl (listed' := #[true, true, true, true, true, true, true, false, false, false, false, false, false, false, false]) rfl fun a hA => ?_
  refine a_ch2 (i := 7) (j := 12) (by kernel_rfl) ?_ ?_
  · skip
    refine oneL hA 7 rfl (lo_call fn24 rfl (own17_any _ _ (Own.rd0 hO_t43 hH 0 rfl) (by first | omega | (simp; done) | (simp; omega)))) rfl (listed' := #[true, true, true, true, true, true, true, true, false, false, false, false, false, false, false]) rfl ?_
    rintro _ w ⟨v_t44, N_t44, rfl, hO_t44, hC⟩
    replace hH := HS.call0 hH hC
    clear hC
    have hS' := hH.pick [1, 2, 3] (Hs' := [_, _, _]) rfl
    replace hS := hS'; clear hS'
    refine ⟨fun _ _ => hS, ?_⟩
    intro a hA
    refine a_ch2 (i := 8) (j := 12) (by kernel_rfl) ?_ ?_
    · skip
      refine oneL hA 8 rfl (lo_call fn23 rfl (checkt_g (hg.mono0 hH) _ (by first | assumption | (rw [List.length_map]; assumption) | rfl | exact sha_length _ | (simp; done) | (simp [*]; done) | omega) _ _ (Own.rd0 hO_t44 hH 0 rfl) (by first | omega | (simp; done) | (simp; omega)) (by assumption))) rfl (listed' := #[true, true, true, true, true, true, true, true, true, false, false, false, false, false, false]) rfl ?_
      rintro _ w ⟨rfl, hC⟩
      replace hH := HS.call0 hH hC
      clear hC
      refine ⟨fun _ h => absurd h (by decide), ?_⟩
      intro a hA
      refine apq hA 9 rfl (by kernel_rfl) (by intro c a d v w h; cases d <;> exact h) (fun w => (q_move rfl)) rfl (listed' := #[true, true, true, true, true, true, true, true, true, true, false, false, false, false, false]) rfl fun a hA => ?_
      refine apq hA 10 rfl (by kernel_rfl) (by intro c a d v w h; cases d <;> exact h) (fun w => (q_extract rfl rfl)) rfl (listed' := #[true, true, true, true, true, true, true, true, true, true, true, false, false, false, false]) rfl fun a hA => ?_
      refine apq hA 11 rfl (by kernel_rfl) (by intro c a d v w h; cases d <;> exact h) (fun w => (q_extract rfl rfl)) rfl (listed' := #[true, true, true, true, true, true, true, true, true, true, true, true, false, false, false]) rfl fun a hA => ?_
      refine al hA 12 rfl (by kernel_rfl) (lo_allocA hH ti44) rfl (listed' := #[true, true, true, true, true, true, true, true, true, true, true, true, true, false, false]) rfl ?_
      clear hH; rintro _ w ⟨b_t9, rfl, hH⟩
      replace hH : HS _ _ _ ([(b_t9, Obj.cells ((List.replicate 6 (0 : Int)).map I).toArray 44 (0, 0))] :: _) := hH
      have hS' := hH.pick [2, 3, 4] (Hs' := [_, _, _]) rfl
      replace hS := hS'; clear hS'
      refine ⟨fun _ _ => hS, ?_⟩
      intro a hA
      refine al0 hA 13 rfl (by kernel_rfl) (lo_storeAm hH ti44 rfl rfl (by first | (simp; done) | (rw [List.length_map]; assumption) | rfl | (simp [*]; done)) (by first | (simp; done) | (rw [List.length_map]; assumption) | rfl | (simp [*]; done)) (one_I _)) (listed' := #[true, true, true, true, true, true, true, true, true, true, true, true, true, true, false]) rfl ?_
      clear hH; rintro _ w hH
      refine ⟨fun _ h => absurd h (by decide), ?_⟩
      refine apq hA 14 rfl (by kernel_rfl) (by intro c a d v w h; cases d <;> exact h) (fun w => (q_assign rfl)) rfl (listed' := #[true, true, true, true, true, true, true, true, true, true, true, true, true, true, true]) rfl fun a hA => ?_
      refine a_end (by kernel_rfl) ?_ _
      refine hK7 _ _ ?_
      clear hK7
      replace hA := hA.sub (E' := [(10, _), (9, _), (6, _)]) ⟨rfl, rfl, rfl, trivial⟩
      refine wp_seq_k fun K8 hK8 => ?_
      refine wp_region_lit ?_
      refine sq hA (q_move rfl) rfl fun a hA => ?_
      refine sq hA (q_eqlI (n := 40) rfl rfl) rfl fun a hA => ?_
      replace hA := hA.decT (by rw [hck]; rfl)
      refine sq hA (q_move rfl) rfl fun a hA => ?_
      refine gq hA rfl rfl (q_loadW hH 0 rfl Tryd.underlying44 rfl ti44 rfl (by first | omega | (simp; done) | (simp; omega) | (rw [List.length_map]; assumption) | assumption | rfl | (simp [*]; done) | (simp [*]; omega))) rfl fun a hA => ?_
      refine gq hA rfl rfl (q_build (v := .agg ((List.replicate 6 (0 : Int)).map I).toArray) (vs := []) rfl (fun w => run_build w _ _ _ (by kernel_rfl))) rfl fun a hA => ?_
      refine gq hA rfl rfl (q_eqlS (n := 6) ⟨Tryd.underlying44, by kernel_rfl, by kernel_rfl, by kernel_rfl, by kernel_rfl⟩ rfl rfl (by first | assumption | (rw [List.length_map]; assumption) | rfl | exact sha_length _ | (simp; done) | (simp [*]; done) | omega) (by first | assumption | (rw [List.length_map]; assumption) | rfl | exact sha_length _ | (simp; done) | (simp [*]; done) | omega)) rfl fun a hA => ?_
      refine sq hA (q_pick_t rfl rfl) rfl fun a hA => ?_
      replace hA := hA.decT (by rw [hck])
      refine sq hA (q_move rfl) rfl fun a hA => ?_
      refine gl hA rfl rfl (lo_call fn22 rfl (awake17_any (hg.mono0 hH))) rfl ?_
      rintro _ w ⟨rfl, hC⟩ a hA
      replace hH := HS.call0 hH hC
      clear hC
      refine sq hA (q_pick_t rfl rfl) rfl fun a hA => ?_
      refine sq hA (q_assign rfl) rfl fun a hA => ?_
      refine wpList_nil ?_
      refine hK8 _ _ ?_
      clear hK8
      replace hA := hA.sub (E' := [(6, _)]) ⟨rfl, trivial⟩
      refine wp_ret ?_
      refine post_ret hA (res_1 rfl hA rfl) ?_
      replace hH := hH.pick [] (Hs' := []) rfl
      exact ⟨_, rfl, rfl, hH⟩
    · skip
      refine oneL hA 12 rfl (lo_allocA hH ti44) rfl (listed' := #[true, true, true, true, true, true, true, true, false, false, false, false, true, false, false]) rfl ?_
      clear hH; rintro _ w ⟨b_t9, rfl, hH⟩
      replace hH : HS _ _ _ ([(b_t9, Obj.cells ((List.replicate 6 (0 : Int)).map I).toArray 44 (0, 0))] :: _) := hH
      have hS' := hH.pick [2, 3, 4] (Hs' := [_, _, _]) rfl
      replace hS := hS'; clear hS'
      refine ⟨fun _ _ => hS, ?_⟩
      intro a hA
      refine al hA 8 rfl (by kernel_rfl) (lo_call fn23 rfl (checkt_g (hg.mono0 hH) _ (by first | assumption | (rw [List.length_map]; assumption) | rfl | exact sha_length _ | (simp; done) | (simp [*]; done) | omega) _ _ (Own.rd0 hO_t44 hH 1 rfl) (by first | omega | (simp; done) | (simp; omega)) (by assumption))) rfl (listed' := #[true, true, true, true, true, true, true, true, true, false, false, false, true, false, false]) rfl ?_
      rintro _ w ⟨rfl, hC⟩
      replace hH := HS.call0 hH hC
      clear hC
      refine ⟨fun _ h => absurd h (by decide), ?_⟩
      intro a hA
      refine apq hA 9 rfl (by kernel_rfl) (by intro c a d v w h; cases d <;> exact h) (fun w => (q_move rfl)) rfl (listed' := #[true, true, true, true, true, true, true, true, true, true, false, false, true, false, false]) rfl fun a hA => ?_
      refine apq hA 10 rfl (by kernel_rfl) (by intro c a d v w h; cases d <;> exact h) (fun w => (q_extract rfl rfl)) rfl (listed' := #[true, true, true, true, true, true, true, true, true, true, true, false, true, false, false]) rfl fun a hA => ?_
      refine apq hA 11 rfl (by kernel_rfl) (by intro c a d v w h; cases d <;> exact h) (fun w => (q_extract rfl rfl)) rfl (listed' := #[true, true, true, true, true, true, true, true, true, true, true, true, true, false, false]) rfl fun a hA => ?_
      refine al0 hA 13 rfl (by kernel_rfl) (lo_storeAm hH ti44 rfl rfl (by first | (simp; done) | (rw [List.length_map]; assumption) | rfl | (simp [*]; done)) (by first | (simp; done) | (rw [List.length_map]; assumption) | rfl | (simp [*]; done)) (one_I _)) (listed' := #[true, true, true, true, true, true, true, true, true, true, true, true, true, true, false]) rfl ?_
      clear hH; rintro _ w hH
      refine ⟨fun _ h => absurd h (by decide), ?_⟩
      refine apq hA 14 rfl (by kernel_rfl) (by intro c a d v w h; cases d <;> exact h) (fun w => (q_assign rfl)) rfl (listed' := #[true, true, true, true, true, true, true, true, true, true, true, true, true, true, true]) rfl fun a hA => ?_
      refine a_end (by kernel_rfl) ?_ _
      refine hK7 _ _ ?_
      clear hK7
      replace hA := hA.sub (E' := [(10, _), (9, _), (6, _)]) ⟨rfl, rfl, rfl, trivial⟩
      refine wp_seq_k fun K9 hK9 => ?_
      refine wp_region_lit ?_
      refine sq hA (q_move rfl) rfl fun a hA => ?_
      refine sq hA (q_eqlI (n := 40) rfl rfl) rfl fun a hA => ?_
      replace hA := hA.decT (by rw [hck]; rfl)
      refine sq hA (q_move rfl) rfl fun a hA => ?_
      refine gq hA rfl rfl (q_loadW hH 0 rfl Tryd.underlying44 rfl ti44 rfl (by first | omega | (simp; done) | (simp; omega) | (rw [List.length_map]; assumption) | assumption | rfl | (simp [*]; done) | (simp [*]; omega))) rfl fun a hA => ?_
      refine gq hA rfl rfl (q_build (v := .agg ((List.replicate 6 (0 : Int)).map I).toArray) (vs := []) rfl (fun w => run_build w _ _ _ (by kernel_rfl))) rfl fun a hA => ?_
      refine gq hA rfl rfl (q_eqlS (n := 6) ⟨Tryd.underlying44, by kernel_rfl, by kernel_rfl, by kernel_rfl, by kernel_rfl⟩ rfl rfl (by first | assumption | (rw [List.length_map]; assumption) | rfl | exact sha_length _ | (simp; done) | (simp [*]; done) | omega) (by first | assumption | (rw [List.length_map]; assumption) | rfl | exact sha_length _ | (simp; done) | (simp [*]; done) | omega)) rfl fun a hA => ?_
      refine sq hA (q_pick_t rfl rfl) rfl fun a hA => ?_
      replace hA := hA.decT (by rw [hck])
      refine sq hA (q_move rfl) rfl fun a hA => ?_
      refine gl hA rfl rfl (lo_call fn22 rfl (awake17_any (hg.mono0 hH))) rfl ?_
      rintro _ w ⟨rfl, hC⟩ a hA
      replace hH := HS.call0 hH hC
      clear hC
      refine sq hA (q_pick_t rfl rfl) rfl fun a hA => ?_
      refine sq hA (q_assign rfl) rfl fun a hA => ?_
      refine wpList_nil ?_
      refine hK9 _ _ ?_
      clear hK9
      replace hA := hA.sub (E' := [(6, _)]) ⟨rfl, trivial⟩
      refine wp_ret ?_
      refine post_ret hA (res_1 rfl hA rfl) ?_
      replace hH := hH.pick [] (Hs' := []) rfl
      exact ⟨_, rfl, rfl, hH⟩
  · skip
    refine oneL hA 12 rfl (lo_allocA hH ti44) rfl (listed' := #[true, true, true, true, true, true, true, false, false, false, false, false, true, false, false]) rfl ?_
    clear hH; rintro _ w ⟨b_t9, rfl, hH⟩
    replace hH : HS _ _ _ ([(b_t9, Obj.cells ((List.replicate 6 (0 : Int)).map I).toArray 44 (0, 0))] :: _) := hH
    have hS' := hH.pick [1, 2, 3] (Hs' := [_, _, _]) rfl
    replace hS := hS'; clear hS'
    refine ⟨fun _ _ => hS, ?_⟩
    intro a hA
    refine al hA 7 rfl (by kernel_rfl) (lo_call fn24 rfl (own17_any _ _ (Own.rd0 hO_t43 hH 1 rfl) (by first | omega | (simp; done) | (simp; omega)))) rfl (listed' := #[true, true, true, true, true, true, true, true, false, false, false, false, true, false, false]) rfl ?_
    rintro _ w ⟨v_t44, N_t44, rfl, hO_t44, hC⟩
    replace hH := HS.call0 hH hC
    clear hC
    have hS' := hH.pick [2, 3, 4] (Hs' := [_, _, _]) rfl
    replace hS := hS'; clear hS'
    refine ⟨fun _ _ => hS, ?_⟩
    intro a hA
    refine al hA 8 rfl (by kernel_rfl) (lo_call fn23 rfl (checkt_g (hg.mono0 hH) _ (by first | assumption | (rw [List.length_map]; assumption) | rfl | exact sha_length _ | (simp; done) | (simp [*]; done) | omega) _ _ (Own.rd0 hO_t44 hH 0 rfl) (by first | omega | (simp; done) | (simp; omega)) (by assumption))) rfl (listed' := #[true, true, true, true, true, true, true, true, true, false, false, false, true, false, false]) rfl ?_
    rintro _ w ⟨rfl, hC⟩
    replace hH := HS.call0 hH hC
    clear hC
    refine ⟨fun _ h => absurd h (by decide), ?_⟩
    intro a hA
    refine apq hA 9 rfl (by kernel_rfl) (by intro c a d v w h; cases d <;> exact h) (fun w => (q_move rfl)) rfl (listed' := #[true, true, true, true, true, true, true, true, true, true, false, false, true, false, false]) rfl fun a hA => ?_
    refine apq hA 10 rfl (by kernel_rfl) (by intro c a d v w h; cases d <;> exact h) (fun w => (q_extract rfl rfl)) rfl (listed' := #[true, true, true, true, true, true, true, true, true, true, true, false, true, false, false]) rfl fun a hA => ?_
    refine apq hA 11 rfl (by kernel_rfl) (by intro c a d v w h; cases d <;> exact h) (fun w => (q_extract rfl rfl)) rfl (listed' := #[true, true, true, true, true, true, true, true, true, true, true, true, true, false, false]) rfl fun a hA => ?_
    replace hH := hH.pick [1, 0, 2, 3, 4] (Hs' := [_, _, _, _, _]) rfl
    refine al0 hA 13 rfl (by kernel_rfl) (lo_storeAm hH ti44 rfl rfl (by first | (simp; done) | (rw [List.length_map]; assumption) | rfl | (simp [*]; done)) (by first | (simp; done) | (rw [List.length_map]; assumption) | rfl | (simp [*]; done)) (one_I _)) (listed' := #[true, true, true, true, true, true, true, true, true, true, true, true, true, true, false]) rfl ?_
    clear hH; rintro _ w hH
    refine ⟨fun _ h => absurd h (by decide), ?_⟩
    refine apq hA 14 rfl (by kernel_rfl) (by intro c a d v w h; cases d <;> exact h) (fun w => (q_assign rfl)) rfl (listed' := #[true, true, true, true, true, true, true, true, true, true, true, true, true, true, true]) rfl fun a hA => ?_
    refine a_end (by kernel_rfl) ?_ _
    refine hK7 _ _ ?_
    clear hK7
    replace hA := hA.sub (E' := [(10, _), (9, _), (6, _)]) ⟨rfl, rfl, rfl, trivial⟩
    refine wp_seq_k fun K10 hK10 => ?_
    refine wp_region_lit ?_
    refine sq hA (q_move rfl) rfl fun a hA => ?_
    refine sq hA (q_eqlI (n := 40) rfl rfl) rfl fun a hA => ?_
    replace hA := hA.decT (by rw [hck]; rfl)
    refine sq hA (q_move rfl) rfl fun a hA => ?_
    refine gq hA rfl rfl (q_loadW hH 0 rfl Tryd.underlying44 rfl ti44 rfl (by first | omega | (simp; done) | (simp; omega) | (rw [List.length_map]; assumption) | assumption | rfl | (simp [*]; done) | (simp [*]; omega))) rfl fun a hA => ?_
    refine gq hA rfl rfl (q_build (v := .agg ((List.replicate 6 (0 : Int)).map I).toArray) (vs := []) rfl (fun w => run_build w _ _ _ (by kernel_rfl))) rfl fun a hA => ?_
    refine gq hA rfl rfl (q_eqlS (n := 6) ⟨Tryd.underlying44, by kernel_rfl, by kernel_rfl, by kernel_rfl, by kernel_rfl⟩ rfl rfl (by first | assumption | (rw [List.length_map]; assumption) | rfl | exact sha_length _ | (simp; done) | (simp [*]; done) | omega) (by first | assumption | (rw [List.length_map]; assumption) | rfl | exact sha_length _ | (simp; done) | (simp [*]; done) | omega)) rfl fun a hA => ?_
    refine sq hA (q_pick_t rfl rfl) rfl fun a hA => ?_
    replace hA := hA.decT (by rw [hck])
    refine sq hA (q_move rfl) rfl fun a hA => ?_
    refine gl hA rfl rfl (lo_call fn22 rfl (awake17_any (hg.mono0 hH))) rfl ?_
    rintro _ w ⟨rfl, hC⟩ a hA
    replace hH := HS.call0 hH hC
    clear hC
    refine sq hA (q_pick_t rfl rfl) rfl fun a hA => ?_
    refine sq hA (q_assign rfl) rfl fun a hA => ?_
    refine wpList_nil ?_
    refine hK10 _ _ ?_
    clear hK10
    replace hA := hA.sub (E' := [(6, _)]) ⟨rfl, trivial⟩
    refine wp_ret ?_
    refine post_ret hA (res_1 rfl hA rfl) ?_
    replace hH := hH.pick [] (Hs' := []) rfl
    exact ⟨_, rfl, rfl, hH⟩

theorem tokenApart_any {w0 : World} {lv : Nat} (hg : Gl lv w0) (s : Bs) (hs : s.length = 32) (ts : List Int) (hts : ts.length = 6) (us : List Int) (hus : us.length = 6) :
    Calls Tryd.prog 11 #[(.agg ((s).map B8).toArray), (.agg ((ts).map I).toArray), (.agg ((us).map I).toArray)] w0 (Ret fun r w' => r = .bool true ∧ HS [] w0 w' []) := by
  have hH := HS.start w0
  refine start (n := 67) (E := [(0, _), (1, _), (2, _)]) Tryd.func11 rfl rfl rfl (args_look rfl) ?_
  intro a hA
  obtain ⟨M, hM⟩ : ∃ x, x = mkT s ts := ⟨_, rfl⟩
  obtain ⟨U, hU⟩ : ∃ x, x = mkT s us := ⟨_, rfl⟩
  have hmb : M.1.length ≤ 200 := by rw [hM]; exact mkT_bound hts
  have hub : U.1.length ≤ 200 := by rw [hU]; exact mkT_bound hus
  have hm0 : M.2 = 0 → RtT ts := fun h => mkT_rt (key := s) (by rw [← hM]; exact h)
  have hu0 : U.2 = 0 → RtT us := fun h => mkT_rt (key := s) (by rw [← hU]; exact h)
  have hm1 : RtT ts → M.2 = 0 ∧ 32 ≤ M.1.length := fun h => ⟨by rw [hM, mkT_ok h], by rw [hM, mkT_len h]; omega⟩
  have hu1 : RtT us → U.2 = 0 ∧ 32 ≤ U.1.length := fun h => ⟨by rw [hU, mkT_ok h], by rw [hU, mkT_len h]; omega⟩
  refine wp_seq_k fun K1 hK1 => ?_
  refine wp_region_lit ?_
  refine sl hA (lo_boxA hH rfl) rfl ?_
  clear hH; rintro _ w ⟨b_t3, rfl, hH⟩ a hA
  refine sl hA (lo_boxA hH rfl) rfl ?_
  clear hH; rintro _ w ⟨b_t4, rfl, hH⟩ a hA
  refine sl hA (lo_boxA hH rfl) rfl ?_
  clear hH; rintro _ w ⟨b_t5, rfl, hH⟩ a hA
  refine sq hA (q_assign rfl) rfl fun a hA => ?_
  refine wpList_nil ?_
  refine hK1 _ _ ?_
  clear hK1
  replace hA := hA.sub (E' := [(6, _), (5, _), (4, _), (3, _)]) ⟨rfl, rfl, rfl, rfl, trivial⟩
  refine wp_seq_k fun K2 hK2 => ?_
  refine wp_region_lit ?_
  refine sq hA (q_loadW hH 2 rfl Tryd.underlying42 rfl ti42 rfl (by first | omega | (simp; done) | (simp; omega) | (rw [List.length_map]; assumption) | assumption | rfl | (simp [*]; done) | (simp [*]; omega))) rfl fun a hA => ?_
  refine sq hA (q_loadW hH 1 rfl Tryd.underlying44 rfl ti44 rfl (by first | omega | (simp; done) | (simp; omega) | (rw [List.length_map]; assumption) | assumption | rfl | (simp [*]; done) | (simp [*]; omega))) rfl fun a hA => ?_
  refine sl hA (lo_call fn26 rfl (maket_g (hg.mono0 hH) _ (by first | assumption | (rw [List.length_map]; assumption) | rfl | exact sha_length _ | (simp; done) | (simp [*]; done) | omega) _ (by first | assumption | (rw [List.length_map]; assumption) | rfl | exact sha_length _ | (simp; done) | (simp [*]; done) | omega) (by assumption))) rfl ?_
  rintro _ w ⟨v_t14, N_t14, rfl, hO_t14, hC⟩ a hA
  replace hH := HS.call0 hH hC
  clear hC
  refine sq hA (q_move rfl) rfl fun a hA => ?_
  refine sq hA (q_extract rfl rfl) rfl fun a hA => ?_
  refine sq hA (q_extract rfl rfl) rfl fun a hA => ?_
  refine sq hA (q_assign rfl) rfl fun a hA => ?_
  refine sq hA (q_assign rfl) rfl fun a hA => ?_
  refine wpList_nil ?_
  refine hK2 _ _ ?_
  clear hK2
  replace hA := hA.sub (E' := [(8, _), (7, _), (6, _), (5, _), (4, _), (3, _)]) ⟨rfl, rfl, rfl, rfl, rfl, rfl, trivial⟩
  refine wp_seq_k fun K3 hK3 => ?_
  refine wp_region_lit ?_
  refine sq hA (q_loadW hH 3 rfl Tryd.underlying42 rfl ti42 rfl (by first | omega | (simp; done) | (simp; omega) | (rw [List.length_map]; assumption) | assumption | rfl | (simp [*]; done) | (simp [*]; omega))) rfl fun a hA => ?_
  refine sq hA (q_loadW hH 1 rfl Tryd.underlying44 rfl ti44 rfl (by first | omega | (simp; done) | (simp; omega) | (rw [List.length_map]; assumption) | assumption | rfl | (simp [*]; done) | (simp [*]; omega))) rfl fun a hA => ?_
  refine sl hA (lo_call fn26 rfl (maket_g (hg.mono0 hH) _ (by first | assumption | (rw [List.length_map]; assumption) | rfl | exact sha_length _ | (simp; done) | (simp [*]; done) | omega) _ (by first | assumption | (rw [List.length_map]; assumption) | rfl | exact sha_length _ | (simp; done) | (simp [*]; done) | omega) (by assumption))) rfl ?_
  rintro _ w ⟨v_t20, N_t20, rfl, hO_t20, hC⟩ a hA
  replace hH := HS.call0 hH hC
  clear hC
  refine sq hA (q_move rfl) rfl fun a hA => ?_
  refine sq hA (q_extract rfl rfl) rfl fun a hA => ?_
  refine sq hA (q_extract rfl rfl) rfl fun a hA => ?_
  refine sq hA (q_assign rfl) rfl fun a hA => ?_
  refine sq hA (q_assign rfl) rfl fun a hA => ?_
  refine wpList_nil ?_
  refine hK3 _ _ ?_
  clear hK3
  replace hA := hA.sub (E' := [(10, _), (9, _), (8, _), (7, _), (6, _), (5, _), (4, _)]) ⟨rfl, rfl, rfl, rfl, rfl, rfl, rfl, trivial⟩
  refine wp_seq_k fun K4 hK4 => ?_
  refine wp_seq_k fun K5 hK5 => ?_
  refine wp_region_lit ?_
  refine sq hA (q_move rfl) rfl fun a hA => ?_
  refine sq hA (q_neqI (n := 0) rfl rfl) rfl fun a hA => ?_
  refine hA.spl (fun hs24 hA => ?_) (fun hs24 hA => ?_)
  · skip
    refine sq hA (q_move rfl) rfl fun a hA => ?_
    refine gs hA rfl rfl rfl rfl fun a hA => ?_
    refine gs hA rfl rfl rfl rfl fun a hA => ?_
    refine sq hA (q_pick_t rfl rfl) rfl fun a hA => ?_
    refine sq hA (q_move rfl) rfl fun a hA => ?_
    refine gs hA rfl rfl rfl rfl fun a hA => ?_
    refine gs hA rfl rfl rfl rfl fun a hA => ?_
    refine gs hA rfl rfl rfl rfl fun a hA => ?_
    refine sq hA (q_pick_t rfl rfl) rfl fun a hA => ?_
    refine sq hA (q_move rfl) rfl fun a hA => ?_
    refine gs hA rfl rfl rfl rfl fun a hA => ?_
    refine gs hA rfl rfl rfl rfl fun a hA => ?_
    refine gs hA rfl rfl rfl rfl fun a hA => ?_
    refine sq hA (q_pick_t rfl rfl) rfl fun a hA => ?_
    refine wpList_nil ?_
    refine hK5 _ _ ?_
    clear hK5
    replace hA := hA.sub (E' := [(38, _), (9, _), (7, _), (6, _), (5, _), (4, _)]) ⟨rfl, rfl, rfl, rfl, rfl, rfl, trivial⟩
    refine cond_t hA rfl ?_
    refine wp_seq_k fun K6 hK6 => ?_
    refine wp_region_lit ?_
    refine sq hA (q_loadW hH 3 rfl Tryd.underlying44 rfl ti44 rfl (by first | omega | (simp; done) | (simp; omega) | (rw [List.length_map]; assumption) | assumption | rfl | (simp [*]; done) | (simp [*]; omega))) rfl fun a hA => ?_
    refine sl hA (lo_call fn27 rfl (rightT_any _ (by first | assumption | (rw [List.length_map]; assumption) | rfl | exact sha_length _ | (simp; done) | (simp [*]; done) | omega))) rfl ?_
    rintro _ w ⟨rfl, hC⟩ a hA
    replace hH := HS.call0 hH hC
    clear hC
    refine hA.spl (fun hs40 hA => ?_) (fun hs40 hA => ?_)
    · skip
      refine sq hA (q_move rfl) rfl fun a hA => ?_
      refine gq hA rfl rfl (q_loadW hH 2 rfl Tryd.underlying44 rfl ti44 rfl (by first | omega | (simp; done) | (simp; omega) | (rw [List.length_map]; assumption) | assumption | rfl | (simp [*]; done) | (simp [*]; omega))) rfl fun a hA => ?_
      refine gl hA rfl rfl (lo_call fn27 rfl (rightT_any _ (by first | assumption | (rw [List.length_map]; assumption) | rfl | exact sha_length _ | (simp; done) | (simp [*]; done) | omega))) rfl ?_
      rintro _ w ⟨rfl, hC⟩ a hA
      replace hH := HS.call0 hH hC
      clear hC
      refine hA.spl (fun hs43 hA => ?_) (fun hs43 hA => ?_)
      · skip
        exfalso; have h1 := hm1 hs40; have h2 := hu1 hs43; omega
      · skip
        refine sq hA (q_pick_t rfl rfl) rfl fun a hA => ?_
        refine sq hA (q_not rfl) rfl fun a hA => ?_
        refine sq hA (q_move rfl) rfl fun a hA => ?_
        refine gl hA rfl rfl (lo_call fn22 rfl (awake17_any (hg.mono0 hH))) rfl ?_
        rintro _ w ⟨rfl, hC⟩ a hA
        replace hH := HS.call0 hH hC
        clear hC
        refine sq hA (q_pick_t rfl rfl) rfl fun a hA => ?_
        refine sq hA (q_assign rfl) rfl fun a hA => ?_
        refine wpList_nil ?_
        refine hK6 _ _ ?_
        clear hK6
        replace hA := hA.sub (E' := [(6, _), (9, _), (7, _), (5, _), (4, _)]) ⟨rfl, rfl, rfl, rfl, rfl, trivial⟩
        refine wp_ret ?_
        refine then_ret ?_
        refine post_ret hA (res_1 rfl hA rfl) ?_
        replace hH := hH.pick [] (Hs' := []) rfl
        exact ⟨_, rfl, rfl, hH⟩
    · skip
      refine sq hA (q_move rfl) rfl fun a hA => ?_
      refine gs hA rfl rfl rfl rfl fun a hA => ?_
      refine gs hA rfl rfl rfl rfl fun a hA => ?_
      refine sq hA (q_pick_f rfl rfl) rfl fun a hA => ?_
      refine sq hA (q_not rfl) rfl fun a hA => ?_
      refine sq hA (q_move rfl) rfl fun a hA => ?_
      refine gl hA rfl rfl (lo_call fn22 rfl (awake17_any (hg.mono0 hH))) rfl ?_
      rintro _ w ⟨rfl, hC⟩ a hA
      replace hH := HS.call0 hH hC
      clear hC
      refine sq hA (q_pick_t rfl rfl) rfl fun a hA => ?_
      refine sq hA (q_assign rfl) rfl fun a hA => ?_
      refine wpList_nil ?_
      refine hK6 _ _ ?_
      clear hK6
      replace hA := hA.sub (E' := [(6, _), (9, _), (7, _), (5, _), (4, _)]) ⟨rfl, rfl, rfl, rfl, rfl, trivial⟩
      refine wp_ret ?_
      refine then_ret ?_
      refine post_ret hA (res_1 rfl hA rfl) ?_
      replace hH := hH.pick [] (Hs' := []) rfl
      exact ⟨_, rfl, rfl, hH⟩
  · skip
    refine sq hA (q_move rfl) rfl fun a hA => ?_
    refine gq hA rfl rfl (q_move rfl) rfl fun a hA => ?_
    refine gq hA rfl rfl (q_neqI (n := 0) rfl rfl) rfl fun a hA => ?_
    refine hA.spl (fun hs27 hA => ?_) (fun hs27 hA => ?_)
    · skip
      refine sq hA (q_pick_f rfl rfl) rfl fun a hA => ?_
      refine sq hA (q_move rfl) rfl fun a hA => ?_
      refine gs hA rfl rfl rfl rfl fun a hA => ?_
      refine gs hA rfl rfl rfl rfl fun a hA => ?_
      refine gs hA rfl rfl rfl rfl fun a hA => ?_
      refine sq hA (q_pick_t rfl rfl) rfl fun a hA => ?_
      refine sq hA (q_move rfl) rfl fun a hA => ?_
      refine gs hA rfl rfl rfl rfl fun a hA => ?_
      refine gs hA rfl rfl rfl rfl fun a hA => ?_
      refine gs hA rfl rfl rfl rfl fun a hA => ?_
      refine sq hA (q_pick_t rfl rfl) rfl fun a hA => ?_
      refine wpList_nil ?_
      refine hK5 _ _ ?_
      clear hK5
      replace hA := hA.sub (E' := [(38, _), (9, _), (7, _), (6, _), (5, _), (4, _)]) ⟨rfl, rfl, rfl, rfl, rfl, rfl, trivial⟩
      refine cond_t hA rfl ?_
      refine wp_seq_k fun K7 hK7 => ?_
      refine wp_region_lit ?_
      refine sq hA (q_loadW hH 3 rfl Tryd.underlying44 rfl ti44 rfl (by first | omega | (simp; done) | (simp; omega) | (rw [List.length_map]; assumption) | assumption | rfl | (simp [*]; done) | (simp [*]; omega))) rfl fun a hA => ?_
      refine sl hA (lo_call fn27 rfl (rightT_any _ (by first | assumption | (rw [List.length_map]; assumption) | rfl | exact sha_length _ | (simp; done) | (simp [*]; done) | omega))) rfl ?_
      rintro _ w ⟨rfl, hC⟩ a hA
      replace hH := HS.call0 hH hC
      clear hC
      refine hA.spl (fun hs40 hA => ?_) (fun hs40 hA => ?_)
      · skip
        refine sq hA (q_move rfl) rfl fun a hA => ?_
        refine gq hA rfl rfl (q_loadW hH 2 rfl Tryd.underlying44 rfl ti44 rfl (by first | omega | (simp; done) | (simp; omega) | (rw [List.length_map]; assumption) | assumption | rfl | (simp [*]; done) | (simp [*]; omega))) rfl fun a hA => ?_
        refine gl hA rfl rfl (lo_call fn27 rfl (rightT_any _ (by first | assumption | (rw [List.length_map]; assumption) | rfl | exact sha_length _ | (simp; done) | (simp [*]; done) | omega))) rfl ?_
        rintro _ w ⟨rfl, hC⟩ a hA
        replace hH := HS.call0 hH hC
        clear hC
        refine hA.spl (fun hs43 hA => ?_) (fun hs43 hA => ?_)
        · skip
          exfalso; have h1 := hm1 hs40; have h2 := hu1 hs43; omega
        · skip
          refine sq hA (q_pick_t rfl rfl) rfl fun a hA => ?_
          refine sq hA (q_not rfl) rfl fun a hA => ?_
          refine sq hA (q_move rfl) rfl fun a hA => ?_
          refine gl hA rfl rfl (lo_call fn22 rfl (awake17_any (hg.mono0 hH))) rfl ?_
          rintro _ w ⟨rfl, hC⟩ a hA
          replace hH := HS.call0 hH hC
          clear hC
          refine sq hA (q_pick_t rfl rfl) rfl fun a hA => ?_
          refine sq hA (q_assign rfl) rfl fun a hA => ?_
          refine wpList_nil ?_
          refine hK7 _ _ ?_
          clear hK7
          replace hA := hA.sub (E' := [(6, _), (9, _), (7, _), (5, _), (4, _)]) ⟨rfl, rfl, rfl, rfl, rfl, trivial⟩
          refine wp_ret ?_
          refine then_ret ?_
          refine post_ret hA (res_1 rfl hA rfl) ?_
          replace hH := hH.pick [] (Hs' := []) rfl
          exact ⟨_, rfl, rfl, hH⟩
      · skip
        refine sq hA (q_move rfl) rfl fun a hA => ?_
        refine gs hA rfl rfl rfl rfl fun a hA => ?_
        refine gs hA rfl rfl rfl rfl fun a hA => ?_
        refine sq hA (q_pick_f rfl rfl) rfl fun a hA => ?_
        refine sq hA (q_not rfl) rfl fun a hA => ?_
        refine sq hA (q_move rfl) rfl fun a hA => ?_
        refine gl hA rfl rfl (lo_call fn22 rfl (awake17_any (hg.mono0 hH))) rfl ?_
        rintro _ w ⟨rfl, hC⟩ a hA
        replace hH := HS.call0 hH hC
        clear hC
        refine sq hA (q_pick_t rfl rfl) rfl fun a hA => ?_
        refine sq hA (q_assign rfl) rfl fun a hA => ?_
        refine wpList_nil ?_
        refine hK7 _ _ ?_
        clear hK7
        replace hA := hA.sub (E' := [(6, _), (9, _), (7, _), (5, _), (4, _)]) ⟨rfl, rfl, rfl, rfl, rfl, trivial⟩
        refine wp_ret ?_
        refine then_ret ?_
        refine post_ret hA (res_1 rfl hA rfl) ?_
        replace hH := hH.pick [] (Hs' := []) rfl
        exact ⟨_, rfl, rfl, hH⟩
    · skip
      refine sq hA (q_pick_f rfl rfl) rfl fun a hA => ?_
      refine sq hA (q_move rfl) rfl fun a hA => ?_
      refine gq hA rfl rfl (q_move rfl) rfl fun a hA => ?_
      refine gq hA rfl rfl (q_len Tryd.underlying22 rfl (Own.shp hO_t14)) rfl fun a hA => ?_
      refine gq hA rfl rfl (q_lssI (n := 32) rfl rfl) rfl fun a hA => ?_
      refine hA.spl (fun hs32 hA => ?_) (fun hs32 hA => ?_)
      · skip
        refine sq hA (q_pick_f rfl rfl) rfl fun a hA => ?_
        refine sq hA (q_move rfl) rfl fun a hA => ?_
        refine gs hA rfl rfl rfl rfl fun a hA => ?_
        refine gs hA rfl rfl rfl rfl fun a hA => ?_
        refine gs hA rfl rfl rfl rfl fun a hA => ?_
        refine sq hA (q_pick_t rfl rfl) rfl fun a hA => ?_
        refine wpList_nil ?_
        refine hK5 _ _ ?_
        clear hK5
        replace hA := hA.sub (E' := [(38, _), (9, _), (7, _), (6, _), (5, _), (4, _)]) ⟨rfl, rfl, rfl, rfl, rfl, rfl, trivial⟩
        refine cond_t hA rfl ?_
        refine wp_seq_k fun K8 hK8 => ?_
        refine wp_region_lit ?_
        refine sq hA (q_loadW hH 3 rfl Tryd.underlying44 rfl ti44 rfl (by first | omega | (simp; done) | (simp; omega) | (rw [List.length_map]; assumption) | assumption | rfl | (simp [*]; done) | (simp [*]; omega))) rfl fun a hA => ?_
        refine sl hA (lo_call fn27 rfl (rightT_any _ (by first | assumption | (rw [List.length_map]; assumption) | rfl | exact sha_length _ | (simp; done) | (simp [*]; done) | omega))) rfl ?_
        rintro _ w ⟨rfl, hC⟩ a hA
        replace hH := HS.call0 hH hC
        clear hC
        refine hA.spl (fun hs40 hA => ?_) (fun hs40 hA => ?_)
        · skip
          refine sq hA (q_move rfl) rfl fun a hA => ?_
          refine gq hA rfl rfl (q_loadW hH 2 rfl Tryd.underlying44 rfl ti44 rfl (by first | omega | (simp; done) | (simp; omega) | (rw [List.length_map]; assumption) | assumption | rfl | (simp [*]; done) | (simp [*]; omega))) rfl fun a hA => ?_
          refine gl hA rfl rfl (lo_call fn27 rfl (rightT_any _ (by first | assumption | (rw [List.length_map]; assumption) | rfl | exact sha_length _ | (simp; done) | (simp [*]; done) | omega))) rfl ?_
          rintro _ w ⟨rfl, hC⟩ a hA
          replace hH := HS.call0 hH hC
          clear hC
          refine hA.spl (fun hs43 hA => ?_) (fun hs43 hA => ?_)
          · skip
            exfalso; have h1 := hm1 hs40; have h2 := hu1 hs43; omega
          · skip
            refine sq hA (q_pick_t rfl rfl) rfl fun a hA => ?_
            refine sq hA (q_not rfl) rfl fun a hA => ?_
            refine sq hA (q_move rfl) rfl fun a hA => ?_
            refine gl hA rfl rfl (lo_call fn22 rfl (awake17_any (hg.mono0 hH))) rfl ?_
            rintro _ w ⟨rfl, hC⟩ a hA
            replace hH := HS.call0 hH hC
            clear hC
            refine sq hA (q_pick_t rfl rfl) rfl fun a hA => ?_
            refine sq hA (q_assign rfl) rfl fun a hA => ?_
            refine wpList_nil ?_
            refine hK8 _ _ ?_
            clear hK8
            replace hA := hA.sub (E' := [(6, _), (9, _), (7, _), (5, _), (4, _)]) ⟨rfl, rfl, rfl, rfl, rfl, trivial⟩
            refine wp_ret ?_
            refine then_ret ?_
            refine post_ret hA (res_1 rfl hA rfl) ?_
            replace hH := hH.pick [] (Hs' := []) rfl
            exact ⟨_, rfl, rfl, hH⟩
        · skip
          refine sq hA (q_move rfl) rfl fun a hA => ?_
          refine gs hA rfl rfl rfl rfl fun a hA => ?_
          refine gs hA rfl rfl rfl rfl fun a hA => ?_
          refine sq hA (q_pick_f rfl rfl) rfl fun a hA => ?_
          refine sq hA (q_not rfl) rfl fun a hA => ?_
          refine sq hA (q_move rfl) rfl fun a hA => ?_
          refine gl hA rfl rfl (lo_call fn22 rfl (awake17_any (hg.mono0 hH))) rfl ?_
          rintro _ w ⟨rfl, hC⟩ a hA
          replace hH := HS.call0 hH hC
          clear hC
          refine sq hA (q_pick_t rfl rfl) rfl fun a hA => ?_
          refine sq hA (q_assign rfl) rfl fun a hA => ?_
          refine wpList_nil ?_
          refine hK8 _ _ ?_
          clear hK8
          replace hA := hA.sub (E' := [(6, _), (9, _), (7, _), (5, _), (4, _)]) ⟨rfl, rfl, rfl, rfl, rfl, trivial⟩
          refine wp_ret ?_
          refine then_ret ?_
          refine post_ret hA (res_1 rfl hA rfl) ?_
          replace hH := hH.pick [] (Hs' := []) rfl
          exact ⟨_, rfl, rfl, hH⟩
      · skip
        refine sq hA (q_pick_f rfl rfl) rfl fun a hA => ?_
        refine sq hA (q_move rfl) rfl fun a hA => ?_
        refine gq hA rfl rfl (q_move rfl) rfl fun a hA => ?_
        refine gq hA rfl rfl (q_len Tryd.underlying22 rfl (Own.shp hO_t20)) rfl fun a hA => ?_
        refine gq hA rfl rfl (q_lssI (n := 32) rfl rfl) rfl fun a hA => ?_
        refine sq hA (q_pick_f rfl rfl) rfl fun a hA => ?_
        refine wpList_nil ?_
        refine hK5 _ _ ?_
        clear hK5
        replace hA := hA.sub (E' := [(38, _), (9, _), (7, _), (6, _), (5, _), (4, _)]) ⟨rfl, rfl, rfl, rfl, rfl, rfl, trivial⟩
        refine cond_d hA rfl (fun hc38 => ?_) (fun hc38 => ?_)
        · skip
          refine wp_seq_k fun K9 hK9 => ?_
          refine wp_region_lit ?_
          refine sq hA (q_loadW hH 3 rfl Tryd.underlying44 rfl ti44 rfl (by first | omega | (simp; done) | (simp; omega) | (rw [List.length_map]; assumption) | assumption | rfl | (simp [*]; done) | (simp [*]; omega))) rfl fun a hA => ?_
          refine sl hA (lo_call fn27 rfl (rightT_any _ (by first | assumption | (rw [List.length_map]; assumption) | rfl | exact sha_length _ | (simp; done) | (simp [*]; done) | omega))) rfl ?_
          rintro _ w ⟨rfl, hC⟩ a hA
          replace hH := HS.call0 hH hC
          clear hC
          refine hA.spl (fun hs40 hA => ?_) (fun hs40 hA => ?_)
          · skip
            refine sq hA (q_move rfl) rfl fun a hA => ?_
            refine gq hA rfl rfl (q_loadW hH 2 rfl Tryd.underlying44 rfl ti44 rfl (by first | omega | (simp; done) | (simp; omega) | (rw [List.length_map]; assumption) | assumption | rfl | (simp [*]; done) | (simp [*]; omega))) rfl fun a hA => ?_
            refine gl hA rfl rfl (lo_call fn27 rfl (rightT_any _ (by first | assumption | (rw [List.length_map]; assumption) | rfl | exact sha_length _ | (simp; done) | (simp [*]; done) | omega))) rfl ?_
            rintro _ w ⟨rfl, hC⟩ a hA
            replace hH := HS.call0 hH hC
            clear hC
            refine hA.spl (fun hs43 hA => ?_) (fun hs43 hA => ?_)
            · skip
              exfalso; have h1 := hm1 hs40; have h2 := hu1 hs43; omega
            · skip
              refine sq hA (q_pick_t rfl rfl) rfl fun a hA => ?_
              refine sq hA (q_not rfl) rfl fun a hA => ?_
              refine sq hA (q_move rfl) rfl fun a hA => ?_
              refine gl hA rfl rfl (lo_call fn22 rfl (awake17_any (hg.mono0 hH))) rfl ?_
              rintro _ w ⟨rfl, hC⟩ a hA
              replace hH := HS.call0 hH hC
              clear hC
              refine sq hA (q_pick_t rfl rfl) rfl fun a hA => ?_
              refine sq hA (q_assign rfl) rfl fun a hA => ?_
              refine wpList_nil ?_
              refine hK9 _ _ ?_
              clear hK9
              replace hA := hA.sub (E' := [(6, _), (9, _), (7, _), (5, _), (4, _)]) ⟨rfl, rfl, rfl, rfl, rfl, trivial⟩
              refine wp_ret ?_
              refine then_ret ?_
              refine post_ret hA (res_1 rfl hA rfl) ?_
              replace hH := hH.pick [] (Hs' := []) rfl
              exact ⟨_, rfl, rfl, hH⟩
          · skip
            refine sq hA (q_move rfl) rfl fun a hA => ?_
            refine gs hA rfl rfl rfl rfl fun a hA => ?_
            refine gs hA rfl rfl rfl rfl fun a hA => ?_
            refine sq hA (q_pick_f rfl rfl) rfl fun a hA => ?_
            refine sq hA (q_not rfl) rfl fun a hA => ?_
            refine sq hA (q_move rfl) rfl fun a hA => ?_
            refine gl hA rfl rfl (lo_call fn22 rfl (awake17_any (hg.mono0 hH))) rfl ?_
            rintro _ w ⟨rfl, hC⟩ a hA
            replace hH := HS.call0 hH hC
            clear hC
            refine sq hA (q_pick_t rfl rfl) rfl fun a hA => ?_
            refine sq hA (q_assign rfl) rfl fun a hA => ?_
            refine wpList_nil ?_
            refine hK9 _ _ ?_
            clear hK9
            replace hA := hA.sub (E' := [(6, _), (9, _), (7, _), (5, _), (4, _)]) ⟨rfl, rfl, rfl, rfl, rfl, trivial⟩
            refine wp_ret ?_
            refine then_ret ?_
            refine post_ret hA (res_1 rfl hA rfl) ?_
            replace hH := hH.pick [] (Hs' := []) rfl
            exact ⟨_, rfl, rfl, hH⟩
        · skip
          refine wp_skip ?_
          refine hK4 _ _ ?_
          clear hK4
          replace hA := hA.sub (E' := [(9, _), (7, _), (6, _), (5, _), (4, _)]) ⟨rfl, rfl, rfl, rfl, rfl, trivial⟩
          refine wp_seq_k fun K10 hK10 => ?_
          refine any_go mixed (fun _ => true) hH ?_
          clear hH; intro w hH
          have hS := hH
          change wpK _ _ _ _ _ _ 19 #[false, false, false, false, false, false, false, false, false, false, false, false, false, false, false, false, false, false, false] _ _
          refine apq hA 0 rfl (by kernel_rfl) (by intro c a d v w h; cases d <;> exact h) (fun w => (q_move rfl)) rfl (listed' := #[true, false, false, false, false, false, false, false, false, false, false, false, false, false, false, false, false, false, false]) rfl fun a hA => ?_
          refine apq hA 1 rfl (by kernel_rfl) (by intro c a d v w h; cases d <;> exact h) (fun w => (q_move rfl)) rfl (listed' := #[true, true, false, false, false, false, false, false, false, false, false, false, false, false, false, false, false, false, false]) rfl fun a hA => ?_
          refine apq hA 2 rfl (by kernel_rfl) (by intro c a d v w h; cases d <;> exact h) (fun w => (q_len Tryd.underlying22 rfl (Own.shp hO_t14))) rfl (listed' := #[true, true, true, false, false, false, false, false, false, false, false, false, false, false, false, false, false, false, false]) rfl fun a hA => ?_
          refine apq hA 3 rfl (by kernel_rfl) (by intro c a d v w h; cases d <;> exact h) (fun w => (q_subI (n := 32) rfl rfl (by omega))) rfl (listed' := #[true, true, true, true, false, false, false, false, false, false, false, false, false, false, false, false, false, false, false]) rfl fun a hA => ?_
          obtain ⟨v_t53, hv_t53, hO_t53⟩ := Ow.cut0 hO_t14 (M.1.length - 32) (by omega)
          refine apq hA 4 rfl (by kernel_rfl) (by intro c a d v w h; cases d <;> exact h) (fun w => (q_slice Tryd.underlying22 ti5 rfl (0) (M.1.length - 32) hv_t53 (Own.shp hO_t14) rfl rfl (rfl) (by omega) (by omega) (by omega))) rfl (listed' := #[true, true, true, true, true, false, false, false, false, false, false, false, false, false, false, false, false, false, false]) rfl fun a hA => ?_
          refine apq hA 5 rfl (by kernel_rfl) (by intro c a d v w h; cases d <;> exact h) (fun w => (q_move rfl)) rfl (listed' := #[true, true, true, true, true, true, false, false, false, false, false, false, false, false, false, false, false, false, false]) rfl fun a hA => ?_
          refine apq hA 6 rfl (by kernel_rfl) (by intro c a d v w h; cases d <;> exact h) (fun w => (q_move rfl)) rfl (listed' := #[true, true, true, true, true, true, true, false, false, false, false, false, false, false, false, false, false, false, false]) rfl fun a hA => ?_
          refine apq hA 7 rfl (by kernel_rfl) (by intro c a d v w h; cases d <;> exact h) (fun w => (q_len Tryd.underlying22 rfl (Own.shp hO_t20))) rfl (listed' := #[true, true, true, true, true, true, true, true, false, false, false, false, false, false, false, false, false, false, false]) rfl fun a hA => ?_
          refine apq hA 8 rfl (by kernel_rfl) (by intro c a d v w h; cases d <;> exact h) (fun w => (q_subI (n := 32) rfl rfl (by omega))) rfl (listed' := #[true, true, true, true, true, true, true, true, true, false, false, false, false, false, false, false, false, false, false]) rfl fun a hA => ?_
          obtain ⟨v_t58, hv_t58, hO_t58⟩ := Ow.cut0 hO_t20 (U.1.length - 32) (by omega)
          refine apq hA 9 rfl (by kernel_rfl) (by intro c a d v w h; cases d <;> exact h) (fun w => (q_slice Tryd.underlying22 ti5 rfl (0) (U.1.length - 32) hv_t58 (Own.shp hO_t20) rfl rfl (rfl) (by omega) (by omega) (by omega))) rfl (listed' := #[true, true, true, true, true, true, true, true, true, true, false, false, false, false, false, false, false, false, false]) rfl fun a hA => ?_
          refine aq hA 11 rfl (by kernel_rfl) (by intro c a d v w h; cases d <;> exact h) hS (fun w hH => (q_loadW hH 3 rfl Tryd.underlying44 rfl ti44 rfl (by first | omega | (simp; done) | (simp; omega) | (rw [List.length_map]; assumption) | assumption | rfl | (simp [*]; done) | (simp [*]; omega)))) rfl (listed' := #[true, true, true, true, true, true, true, true, true, true, false, true, false, false, false, false, false, false, false]) rfl fun a hA => ?_
          refine aq hA 12 rfl (by kernel_rfl) (by intro c a d v w h; cases d <;> exact h) hS (fun w hH => (q_loadW hH 2 rfl Tryd.underlying44 rfl ti44 rfl (by first | omega | (simp; done) | (simp; omega) | (rw [List.length_map]; assumption) | assumption | rfl | (simp [*]; done) | (simp [*]; omega)))) rfl (listed' := #[true, true, true, true, true, true, true, true, true, true, false, true, true, false, false, false, false, false, false]) rfl fun a hA => ?_
          refine apq hA 13 rfl (by kernel_rfl) (by intro c a d v w h; cases d <;> exact h) (fun w => (q_eqlS (n := 6) ⟨Tryd.underlying44, by kernel_rfl, by kernel_rfl, by kernel_rfl, by kernel_rfl⟩ rfl rfl (by first | assumption | (rw [List.length_map]; assumption) | rfl | exact sha_length _ | (simp; done) | (simp [*]; done) | omega) (by first | assumption | (rw [List.length_map]; assumption) | rfl | exact sha_length _ | (simp; done) | (simp [*]; done) | omega))) rfl (listed' := #[true, true, true, true, true, true, true, true, true, true, false, true, true, true, false, false, false, false, false]) rfl fun a hA => ?_
          refine al hA 10 rfl (by kernel_rfl) (lo_call fn17 rfl (same_any _ _ _ _ (Own.rd0 hO_t53 hH 1 rfl) (Own.rd0 hO_t58 hH 0 rfl) (by first | omega | (simp; done) | (simp; omega)) (by first | omega | (simp; done) | (simp; omega)))) rfl (listed' := #[true, true, true, true, true, true, true, true, true, true, true, true, true, true, false, false, false, false, false]) rfl ?_
          rintro _ w ⟨rfl, hC⟩
          replace hH := HS.call0 hH hC
          clear hC
          have hS' := hH.pick [0, 1, 2, 3, 4] (Hs' := [_, _, _, _, _]) rfl
          replace hS := hS'; clear hS'
          refine ⟨fun _ _ => hS, ?_⟩
          intro a hA
          refine apq hA 14 rfl (by kernel_rfl) (by intro c a d v w h; cases d <;> exact h) (fun w => (q_eqlB Tryd.underlying4 rfl rfl)) rfl (listed' := #[true, true, true, true, true, true, true, true, true, true, true, true, true, true, true, false, false, false, false]) rfl fun a hA => ?_
          replace hA := hA.decT (by exact decide_eq_decide.2 (by rw [hM, hU]; exact mkT_apart (hm0 (by omega)) (hu0 (by omega)) (by omega)))
          refine apq hA 15 rfl (by kernel_rfl) (by intro c a d v w h; cases d <;> exact h) (fun w => (q_move rfl)) rfl (listed' := #[true, true, true, true, true, true, true, true, true, true, true, true, true, true, true, true, false, false, false]) rfl fun a hA => ?_
          refine agl hA 16 rfl (by kernel_rfl) rfl rfl (lo_call fn22 rfl (awake17_any (hg.mono0 hH))) rfl (listed' := #[true, true, true, true, true, true, true, true, true, true, true, true, true, true, true, true, true, false, false]) rfl ?_
          rintro _ w ⟨rfl, hC⟩
          replace hH := HS.call0 hH hC
          clear hC
          have hS' := hH.pick [0, 1, 2, 3, 4] (Hs' := [_, _, _, _, _]) rfl
          replace hS := hS'; clear hS'
          refine ⟨fun _ _ => hS, ?_⟩
          intro a hA
          refine apq hA 17 rfl (by kernel_rfl) (by intro c a d v w h; cases d <;> exact h) (fun w => (q_pick_t rfl rfl)) rfl (listed' := #[true, true, true, true, true, true, true, true, true, true, true, true, true, true, true, true, true, true, false]) rfl fun a hA => ?_
          refine apq hA 18 rfl (by kernel_rfl) (by intro c a d v w h; cases d <;> exact h) (fun w => (q_assign rfl)) rfl (listed' := #[true, true, true, true, true, true, true, true, true, true, true, true, true, true, true, true, true, true, true]) rfl fun a hA => ?_
          refine a_end (by kernel_rfl) ?_ _
          refine hK10 _ _ ?_
          clear hK10
          replace hA := hA.sub (E' := [(6, _)]) ⟨rfl, trivial⟩
          refine wp_ret ?_
          refine post_ret hA (res_1 rfl hA rfl) ?_
          replace hH := hH.pick [] (Hs' := []) rfl
          exact ⟨_, rfl, rfl, hH⟩

theorem tokenCuts_any {w0 : World} {lv : Nat} (hg : Gl lv w0) (s : Bs) (hs : s.length = 32) (ts : List Int) (hts : ts.length = 6) (n : Int) (hn9 : n ≤ 9223372036854775807) : Calls Tryd.prog 10 #[(.agg ((s).map B8).toArray), (.agg ((ts).map I).toArray), I n] w0 (Ret fun r w' => r = .bool true ∧ HS [] w0 w' []) := by
  by_cases h : ¬ RtT ts ∨ n < 0
  · exact tokenCuts_bad hg s hs ts hts n h
  · obtain ⟨m, rfl⟩ : ∃ m : Nat, n = m := ⟨n.toNat, by omega⟩
    exact tokenCuts_ok hg s hs ts hts m (by omega) (Classical.byContradiction fun h2 => h (.inl h2))
end Go.Proofs.YtokcbfklogjnfaaDoor
