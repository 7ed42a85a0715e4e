/- Layer 10 (tape): what a crash leaves. -/
import Derived.Test.YthhdilafnfcpbaaDoorJb
import Derived.Test.YthhdilafnfcpbaaDoorVz
namespace Go.Proofs.YthhdilafnfcpbaaDoor
open Go
set_option linter.unusedVariables false
set_option linter.unusedSimpArgs false
set_option maxRecDepth 100000

set_option maxHeartbeats 1000000 in
theorem crash_any {w0 : World} (b_t : Nat) (vs : Nat → Value) (f : Int) (d : Bool) (fs : Nat → TF) (hfs : ∀ i, (fs i).Ok) (hfl : ∀ i, (fs i).op.length ≤ 2097152) (N_c : Hl) (hRs : ∀ i, i < 4 → ∀ M w, RO M w N_c → By M w (vs (3 * i)) (fs i).sure) (hRo : ∀ i, i < 4 → ∀ M w, RO M w N_c → Rd M w (vs (3 * i + 2)) (fs i).op.length 2 (cellsS (fs i).op)) (v : Value) (ks : List Int) (hr : Rm I (doms [[(b_t, Obj.cells (tpC vs f d).toArray 66 (0, 0))], N_c]) w0 v ks) (hH : HS (doms [[(b_t, Obj.cells (tpC vs f d).toArray 66 (0, 0))], N_c]) w0 w0 [[(b_t, Obj.cells (tpC vs f d).toArray 66 (0, 0))], N_c]) :
    Calls Tryd.prog 15 #[(.pointer (some ⟨b_t, 0, none⟩)), v] w0 (Ret fun r w' => ∃ b_x vx N_y, r = .pointer (some ⟨b_x, 0, none⟩) ∧ FMs 5 76 vx (fun j => (⟨left (fs j) (manyK ks j (fs j).op.length), left (fs j) (manyK ks j (fs j).op.length), []⟩ : TF)) 4 N_y ∧ HS (doms [[(b_t, Obj.cells (tpC vs f d).toArray 66 (0, 0))], N_c]) w0 w' [[(b_t, Obj.cells (tpC vs f d).toArray 66 (0, 0))], N_c, [(b_x, Obj.cells (tpC vx (-1) false).toArray 66 (0, 0))], N_y]) := by
 refine start (n := 80) (E := [(0, _), (1, _)]) Tryd.func15 rfl rfl rfl (args_look rfl) ?_
 intro a hA
 refine wp_seq_k fun K1 hK1 => ?_
 refine wp_region_lit ?_
 refine asg hA fun a hA => ?_
 refine wpList_nil ?_
 refine hK1 _ _ ?_
 clear hK1
 refine wp_seq_k fun K2 hK2 => ?_
 refine wp_seq_k fun K3 hK3 => ?_
 refine wp_region_lit ?_
 refine mv hA fun a hA => ?_
 refine sq hA (q_ptrNil Tryd.underlying25 rfl rfl) rfl fun a hA => ?_
 refine wpList_nil ?_
 refine hK3 _ _ ?_
 clear hK3
 replace hA := hA.s4 13 4 0 1
 refine cond_f hA rfl ?_
 refine wp_skip ?_
 refine hK2 _ _ ?_
 clear hK2
 replace hA := hA.s3 4 0 1
 refine wp_seq_k fun K4 hK4 => ?_
 refine wp_region_lit ?_
 refine sl hA (lo_call fn12 rfl newt_any) rfl ?_
 rintro _ w ⟨b_x, rfl, hC⟩ a hA
 replace hH := HS.call0 hH hC
 clear hC
 refine asg hA fun a hA => ?_
 refine wpList_nil ?_
 refine hK4 _ _ ?_
 clear hK4
 replace hA := hA.s4 5 4 0 1
 refine wp_seq_k fun K5 hK5 => ?_
 refine wp_seq_k fun K6 hK6 => ?_
 refine wp_region_lit ?_
 refine mv hA fun a hA => ?_
 refine wpList_nil ?_
 refine hK6 _ _ ?_
 clear hK6
 refine wp_block ?_
 replace hH := hH.nilFront
 replace hH := hH.pick [2, 3, 1, 0] (Hs' := [_, _, _, _]) rfl
 refine wp_loop_ghost (fun gm a w => ∃ i : Nat, ∃ vx : Nat → Value, ∃ N_y : Hl, At 80 [(15, I i), (5, (.pointer (some ⟨b_x, 0, none⟩))), (0, (.pointer (some ⟨b_t, 0, none⟩))), (1, v)] a ∧ HS (doms [[(b_t, Obj.cells (tpC vs f d).toArray 66 (0, 0))], N_c]) w0 w ([[(b_t, Obj.cells (tpC vs f d).toArray 66 (0, 0))], N_c, [(b_x, Obj.cells (tpC vx (-1) false).toArray 66 (0, 0))], N_y]) ∧ (i ≤ 4) ∧ (∀ k, 3 * i ≤ k → vx k = nilV) ∧ (FMs 5 76 vx (fun j => (⟨left (fs j) (manyK ks j (fs j).op.length), left (fs j) (manyK ks j (fs j).op.length), []⟩ : TF)) i N_y) ∧ gm = 4 - i) (4 - (0)) ⟨0, (fun _ => nilV), [], hA.sub ⟨rfl, rfl, rfl, rfl, trivial⟩, hH, by omega, by exact fun _ _ => rfl, by exact rfl, rfl⟩ ?_
 clear hA hH
 rintro gm a w ⟨i, vx, N_y, hA, hH, hi, hvx, hFs, rfl⟩
 refine wp_seq_k fun K7 hK7 => ?_
 refine wp_region_lit ?_
 refine sq hA (q_lssI (n := 4) rfl rfl) rfl fun a hA => ?_
 refine wpList_nil ?_
 refine hK7 _ _ ?_
 clear hK7
 refine wp_seq_k fun K8 hK8 => ?_
 refine cond_d hA rfl (fun hc16 => ?_) (fun hc16 => ?_)
 ·skip
  refine wp_skip ?_
  refine hK8 _ _ ?_
  clear hK8
  refine wp_seq_k fun K9 hK9 => ?_
  refine wp_block ?_
  refine wp_seq_k fun K10 hK10 => ?_
  refine wp_region_lit ?_
  refine mv hA fun a hA => ?_
  have hi4 : i < 4 := by omega
  refine asg hA fun a hA => ?_
  refine wpList_nil ?_
  refine hK10 _ _ ?_
  clear hK10
  refine wp_seq_k fun K11 hK11 => ?_
  refine wp_region_lit ?_
  refine mv hA fun a hA => ?_
  refine mv hA fun a hA => ?_
  refine sq hA (q_nilCheck rfl) rfl fun a hA => ?_
  refine sq hA (q_fld 0 Tryd.underlying66 rfl rfl ti64 rfl) rfl fun a hA => ?_
  refine sq hA (q_idxAk i Tryd.underlying64 ti63 rfl rfl rfl hi4) rfl fun a hA => ?_
  refine asg hA fun a hA => ?_
  refine asg hA fun a hA => ?_
  refine wpList_nil ?_
  refine hK11 _ _ ?_
  clear hK11
  refine wp_seq_k fun K12 hK12 => ?_
  refine wp_seq_k fun K13 hK13 => ?_
  refine wp_region_lit ?_
  refine mv hA fun a hA => ?_
  refine mv hA fun a hA => ?_
  refine sq hA (q_len Tryd.underlying37 rfl (Rd.shp hr)) rfl fun a hA => ?_
  obtain ⟨mk, hmk⟩ : ∃ m, m = manyK ks i (fs i).op.length := ⟨_, rfl⟩
  have hmkl : mk ≤ (fs i).op.length := by rw [hmk]; exact manyK_le _ _ _
  refine sq hA (q_lssI rfl rfl) rfl fun a hA => ?_
  refine wpList_nil ?_
  refine hK13 _ _ ?_
  clear hK13
  refine cond_d hA rfl (fun hc26 => ?_) (fun hc26 => ?_)
  ·skip
   refine any_go mixed (fun _ => true) hH ?_
   clear hH; intro w hH
   have hS := hH
   refine any_l 12 ?_
   refine p0 hA 0 1 rfl (fun w => (q_move rfl)) fun a hA => ?_
   refine p0 hA 1 3 rfl (fun w => (q_move rfl)) fun a hA => ?_
   refine p0 hA 2 7 rfl (fun w => (q_idx1 (i) Tryd.underlying37 ti3 rfl rfl (by first | omega | rfl) (Rd.shp hr) (by first | omega | (simp; done) | (simp; omega) | (rw [List.length_map]; assumption) | assumption | rfl | (simp [*]; done) | (simp [*]; omega)))) fun a hA => ?_
   refine r0 hA 3 15 rfl hS (fun w hH => (q_loadRm ((0 : Int)) Tryd.underlying3 rfl rfl (hH.rd hr) (by first | omega | (simp; done) | (simp; omega) | (rw [List.length_map]; assumption) | assumption | rfl | (simp [*]; done) | (simp [*]; omega)))) fun a hA => ?_
   refine p0 hA 4 31 rfl (fun w => (q_maxI (n := 0) rfl rfl)) fun a hA => ?_
   refine p0 hA 5 63 rfl (fun w => (q_move rfl)) fun a hA => ?_
   refine p0 hA 6 127 rfl (fun w => (q_nilCheck rfl)) fun a hA => ?_
   refine p0 hA 7 255 rfl (fun w => (q_fldo (3 * i) (3 * i + 2) Tryd.underlying63 rfl rfl ti61 rfl)) fun a hA => ?_
   refine r0 hA 8 511 rfl hS (fun w hH => (q_loadB hH 0 rfl (List.mem_singleton.2 rfl) Tryd.underlying61 rfl rfl (tpC_at (by omega)))) fun a hA => ?_
   refine p0 hA 9 1023 rfl (fun w => (q_len Tryd.underlying61 rfl (Rd.shp ((hRo i hi4) [] _ (RO.of hH 1 rfl))))) fun a hA => ?_
   refine p0 hA 10 2047 rfl (fun w => (q_minI rfl rfl)) fun a hA => ?_
   rw [many_eq (by omega)] at hA
   rw [← hmk] at hA
   refine p0 hA 11 4095 rfl (fun w => (q_assign rfl)) fun a hA => ?_
   refine a_end (by kernel_rfl) ?_ _
   refine hK12 _ _ ?_
   clear hK12
   refine wp_seq_k fun K14 hK14 => ?_
   refine wp_region_lit ?_
   refine sl hA (lo_bs (f := B8) (e := 5) ([]) hH rfl rfl (fun w => by kernel_rfl)) rfl ?_
   clear hH; rintro v_t38 w ⟨N_t38, hO_t38, hH⟩ a hA
   refine mv hA fun a hA => ?_
   refine sq hA (q_nilCheck rfl) rfl fun a hA => ?_
   refine sq hA (q_fldo (3 * i) (3 * i) Tryd.underlying63 rfl rfl ti32 rfl) rfl fun a hA => ?_
   refine sq hA (q_loadB hH 1 rfl (List.mem_singleton.2 rfl) Tryd.underlying32 rfl rfl (tpC_at (by omega))) rfl fun a hA => ?_
   refine sl hA (lo_appm hH Tryd.underlying32 Tryd.underlying32 (.inl rfl) ti5 rfl rfl rfl hO_t38 (Rd.src ((hRs i hi4) [] _ (RO.of hH 2 rfl))) (one_B8 _) (by have q := (hfs i).2.2.2; first | omega | (simp; omega)) (by have q := (hfs i).2.2.2; first | omega | (simp; omega))) rfl ?_
   clear hH; rintro v_t43 w ⟨N_t43, hO_t43, hH⟩ a hA
   refine asg hA fun a hA => ?_
   refine wpList_nil ?_
   refine hK14 _ _ ?_
   clear hK14
   refine wp_seq_k fun K15 hK15 => ?_
   refine wp_seq_k fun K16 hK16 => ?_
   refine wp_region_lit ?_
   refine mv hA fun a hA => ?_
   refine sq hA (q_nilCheck rfl) rfl fun a hA => ?_
   refine sq hA (q_fldo (3 * i) (3 * i + 2) Tryd.underlying63 rfl rfl ti61 rfl) rfl fun a hA => ?_
   refine sq hA (q_loadB hH 1 rfl (List.mem_singleton.2 rfl) Tryd.underlying61 rfl rfl (tpC_at (by omega))) rfl fun a hA => ?_
   refine mv hA fun a hA => ?_
   obtain ⟨v_t49, hv49, hR49⟩ := Rd.piece0 (k := 2) (Rd.shp (hRo i hi4 [] _ (RO.of hH 2 rfl))) mk hmkl
   have hP49 : ∀ M w, RO M w N_c → Rd M w v_t49 mk 2 (cellsS ((fs i).op.take mk)) := fun M w hw => by have q := hR49 M w (hRo i hi4 M w hw); rw [cellsS_take] at q; exact q
   refine sq hA (q_slice Tryd.underlying61 ti76 rfl 0 mk hv49 (Rd.shp (hRo i hi4 [] _ (RO.of hH 2 rfl))) rfl rfl rfl (by first | rfl | omega) (Nat.zero_le _) hmkl) rfl fun a hA => ?_
   refine sq hA (q_len Tryd.underlying61 rfl (Rd.shp (hP49 [] _ (RO.of hH 2 rfl)))) rfl fun a hA => ?_
   refine mv hA fun a hA => ?_
   refine wpList_nil ?_
   refine hK16 _ _ ?_
   clear hK16
   refine wp_block ?_
   replace hH := hH.pick [0, 2, 1, 3, 4] (Hs' := [_, _, _, _, _]) rfl
   replace hH := HS.fold [_, _] [_, _, _] hH
   obtain ⟨NR17, hNR17, hH⟩ := hH
   refine wp_loop_ghost (fun gm a w => ∃ j : Nat, ∃ v_b : Value, ∃ N_b : Hl, At 80 [(51, I j), (50, I mk), (49, v_t49), (47, (vs (3 * i + 2))), (46, (.pointer (some ⟨b_t, 3 * i + 2, none⟩))), (45, (.pointer (some ⟨b_t, 3 * i, none⟩))), (44, (.pointer (some ⟨b_t, 3 * i, none⟩))), (9, v_b), (43, v_t43), (42, (vs (3 * i))), (41, (.pointer (some ⟨b_t, 3 * i, none⟩))), (40, (.pointer (some ⟨b_t, 3 * i, none⟩))), (39, (.pointer (some ⟨b_t, 3 * i, none⟩))), (38, v_t38), (35, (vs (3 * i + 2))), (34, (.pointer (some ⟨b_t, 3 * i + 2, none⟩))), (33, (.pointer (some ⟨b_t, 3 * i, none⟩))), (32, (.pointer (some ⟨b_t, 3 * i, none⟩))), (28, (I i)), (27, v), (24, v), (23, (I i)), (7, (.pointer (some ⟨b_t, 3 * i, none⟩))), (22, (.pointer (some ⟨b_t, 3 * i, none⟩))), (21, (.pointer (some ⟨b_t, 0, none⟩))), (20, (.pointer (some ⟨b_t, 0, none⟩))), (19, (I i)), (18, (.pointer (some ⟨b_t, 0, none⟩))), (6, (I i)), (17, (I i)), (15, (I i)), (5, (.pointer (some ⟨b_x, 0, none⟩))), (0, (.pointer (some ⟨b_t, 0, none⟩))), (1, v)] a ∧ HS (doms [[(b_t, Obj.cells (tpC vs f d).toArray 66 (0, 0))], N_c]) w0 w ([N_b, N_c, NR17]) ∧ (j ≤ mk) ∧ (Ow B8 5 v_b (runB (fs i).sure ((fs i).op.take j)) N_b) ∧ gm = mk - j) (mk - (0)) ⟨0, v_t43, N_t43, hA.sub ⟨rfl, rfl, rfl, rfl, rfl, rfl, rfl, rfl, rfl, rfl, rfl, rfl, rfl, rfl, rfl, rfl, rfl, rfl, rfl, rfl, rfl, rfl, rfl, rfl, rfl, rfl, rfl, rfl, rfl, rfl, rfl, rfl, rfl, rfl, trivial⟩, hH, by omega, by simpa [runB] using hO_t43, rfl⟩ ?_
   clear hA hH
   rintro gm a w ⟨j, v_b, N_b, hA, hH, hj, hO_b, rfl⟩
   refine wp_seq_k fun K18 hK18 => ?_
   refine wp_region_lit ?_
   refine sq hA (q_lssI rfl rfl) rfl fun a hA => ?_
   refine wpList_nil ?_
   refine hK18 _ _ ?_
   clear hK18
   refine wp_seq_k fun K19 hK19 => ?_
   refine cond_d hA rfl (fun hc52 => ?_) (fun hc52 => ?_)
   ·skip
    refine wp_skip ?_
    refine hK19 _ _ ?_
    clear hK19
    refine wp_seq_k fun K20 hK20 => ?_
    refine wp_block ?_
    refine wp_seq_k fun K21 hK21 => ?_
    refine wp_region_lit ?_
    refine sq hA (q_idxk (j) Tryd.underlying61 ti76 rfl rfl (by first | omega | rfl) (Rd.shp (hP49 [] _ (RO.of hH 1 rfl))) (by first | omega | (simp; done) | (simp; omega) | (rw [List.length_map]; assumption) | assumption | rfl | (simp [*]; done) | (simp [*]; omega))) rfl fun a hA => ?_
    obtain ⟨⟨pb, pc⟩, hpj0⟩ : ∃ p, (fs i).op[j]? = some p := ⟨_, List.getElem?_eq_getElem (show j < (fs i).op.length by omega)⟩
    have hpj : ((fs i).op.take mk)[j]? = some (pb, pc) := by rw [List.getElem?_take, if_pos (by omega)]; exact hpj0
    have hbl := runB_len ((fs i).op.take j) (fs i).sure
    have hfq := (hfs i).2.2.2
    have hfo := hfl i
    rw [List.length_take] at hbl
    rcases pb with _ | _
    ·skip
     refine sq hA (q_loadRs Tryd.underlying76 rfl ti76 rfl (hP49 [] _ (RO.of hH 1 rfl)) (by omega) _ (cellsS_at hpj)) rfl fun a hA => ?_
     refine sl hA (lo_allocA hH ti76) rfl ?_
     clear hH; rintro _ w ⟨b_t11, rfl, hH⟩ a hA
     refine s0 hA (lo_storeAm hH ti76 rfl rfl (rfl) (rfl) (ones_cons rfl (ones_cons rfl ones_nil))) ?_
     clear hH; rintro _ w hH
     refine wpList_nil ?_
     refine hK21 _ _ ?_
     clear hK21
     refine wp_seq_k fun K22 hK22 => ?_
     refine wp_region_lit ?_
     refine sq hA (q_fld 0 Tryd.underlying76 rfl rfl ti4 rfl) rfl fun a hA => ?_
     refine sq hA (q_loadB hH 0 rfl (List.mem_singleton.2 rfl) Tryd.underlying4 rfl rfl rfl) rfl fun a hA => ?_
     refine wpList_nil ?_
     refine hK22 _ _ ?_
     clear hK22
     refine cond_f hA rfl ?_
     refine wp_region_lit ?_
     refine mv hA fun a hA => ?_
     refine sq hA (q_fld 1 Tryd.underlying76 rfl rfl ti3 rfl) rfl fun a hA => ?_
     refine sq hA (q_loadB hH 0 rfl (List.mem_singleton.2 rfl) Tryd.underlying3 rfl rfl rfl) rfl fun a hA => ?_
     refine sq hA (q_cvI8 Tryd.underlying3 Tryd.underlying5 rfl) rfl fun a hA => ?_
     rw [BitVec.ofInt_natCast] at hA
     refine sl hA (lo_bs (f := B8) (e := 5) ([BitVec.ofNat 8 pc]) hH rfl rfl (fun w => by kernel_rfl)) rfl ?_
     clear hH; rintro v_t65 w ⟨N_t65, hO_t65, hH⟩ a hA
     replace hH := hH.pick [2, 0, 1, 3, 4] (Hs' := [_, _, _, _, _]) rfl
     refine sl hA (lo_appm hH Tryd.underlying32 Tryd.underlying32 (.inl rfl) ti5 rfl rfl rfl hO_b (Rd.src (Own.rd0 hO_t65 hH 1 rfl)) (one_B8 _) (by first | omega | (simp; omega)) (by first | omega | (simp; omega))) rfl ?_
     clear hH; rintro v_t66 w ⟨N_t66, hO_t66, hH⟩ a hA
     refine asg hA fun a hA => ?_
     refine wpList_nil ?_
     refine block_normal ?_
     refine hK20 _ _ ?_
     clear hK20
     refine wp_region_lit ?_
     refine sq hA (q_addI (n := 1) rfl rfl (by omega)) rfl fun a hA => ?_
     refine mv hA fun a hA => ?_
     refine wpList_nil ?_
     replace hH := hH.pick [0, 3, 4, 1, 2] (Hs' := [_, _, _, _, _]) rfl
     replace hH := hH.pick [0, 1, 2] (Hs' := [_, _, _]) rfl
     exact ⟨_, by omega, j + 1, v_t66, N_t66, hA.sub ⟨rfl, rfl, rfl, rfl, rfl, rfl, rfl, rfl, rfl, rfl, rfl, rfl, rfl, rfl, rfl, rfl, rfl, rfl, rfl, rfl, rfl, rfl, rfl, rfl, rfl, rfl, rfl, rfl, rfl, rfl, rfl, rfl, rfl, rfl, trivial⟩, hH, by omega, by first | (rw [runB_cut hpj0]; exact hO_t60) | (rw [runB_byte hpj0]; exact hO_t66), rfl⟩
    ·skip
     have hle := OpOk_at (hfs i).2.1 hpj0
     refine sq hA (q_loadRs Tryd.underlying76 rfl ti76 rfl (hP49 [] _ (RO.of hH 1 rfl)) (by omega) _ (cellsS_at hpj)) rfl fun a hA => ?_
     refine sl hA (lo_allocA hH ti76) rfl ?_
     clear hH; rintro _ w ⟨b_t11, rfl, hH⟩ a hA
     refine s0 hA (lo_storeAm hH ti76 rfl rfl (rfl) (rfl) (ones_cons rfl (ones_cons rfl ones_nil))) ?_
     clear hH; rintro _ w hH
     refine wpList_nil ?_
     refine hK21 _ _ ?_
     clear hK21
     refine wp_seq_k fun K23 hK23 => ?_
     refine wp_region_lit ?_
     refine sq hA (q_fld 0 Tryd.underlying76 rfl rfl ti4 rfl) rfl fun a hA => ?_
     refine sq hA (q_loadB hH 0 rfl (List.mem_singleton.2 rfl) Tryd.underlying4 rfl rfl rfl) rfl fun a hA => ?_
     refine wpList_nil ?_
     refine hK23 _ _ ?_
     clear hK23
     refine cond_t hA rfl ?_
     refine wp_region_lit ?_
     refine mv hA fun a hA => ?_
     refine sq hA (q_fld 1 Tryd.underlying76 rfl rfl ti3 rfl) rfl fun a hA => ?_
     refine sq hA (q_loadB hH 0 rfl (List.mem_singleton.2 rfl) Tryd.underlying3 rfl rfl rfl) rfl fun a hA => ?_
     obtain ⟨v_t60, hv_t60, hO_t60⟩ := Ow.cut0 hO_b (pc) (by first | exact hle | omega)
     refine sq hA (q_slice Tryd.underlying32 ti5 rfl (0) (pc) hv_t60 (Own.shp hO_b) rfl rfl (rfl) (rfl) (by first | exact hle | omega) (by first | exact hle | omega)) rfl fun a hA => ?_
     refine asg hA fun a hA => ?_
     refine wpList_nil ?_
     refine block_normal ?_
     refine hK20 _ _ ?_
     clear hK20
     refine wp_region_lit ?_
     refine sq hA (q_addI (n := 1) rfl rfl (by omega)) rfl fun a hA => ?_
     refine mv hA fun a hA => ?_
     refine wpList_nil ?_
     replace hH := hH.pick [1, 2, 3, 0] (Hs' := [_, _, _, _]) rfl
     replace hH := hH.pick [0, 1, 2] (Hs' := [_, _, _]) rfl
     exact ⟨_, by omega, j + 1, v_t60, N_b, hA.sub ⟨rfl, rfl, rfl, rfl, rfl, rfl, rfl, rfl, rfl, rfl, rfl, rfl, rfl, rfl, rfl, rfl, rfl, rfl, rfl, rfl, rfl, rfl, rfl, rfl, rfl, rfl, rfl, rfl, rfl, rfl, rfl, rfl, rfl, rfl, trivial⟩, hH, by omega, by first | (rw [runB_cut hpj0]; exact hO_t60) | (rw [runB_byte hpj0]; exact hO_t66), rfl⟩
   ·skip
    obtain rfl : j = mk := by omega
    refine wp_exit ?_
    refine then_exit ?_
    replace hH := HS.unfold [_, _] hNR17 hH
    refine then_exit ?_
    refine exit_here ?_
    refine hK15 _ _ ?_
    clear hK15
    refine any_go mixed (fun j => !(Nat.beq j 3 || Nat.beq j 5 || Nat.beq j 10)) hH ?_
    clear hH; intro w hH
    have hS := hH
    refine any_l 11 ?_
    refine p0 hA 0 1 rfl (fun w => (q_move rfl)) fun a hA => ?_
    refine p0 hA 1 3 rfl (fun w => (q_move rfl)) fun a hA => ?_
    refine p0 hA 2 7 rfl (fun w => (q_move rfl)) fun a hA => ?_
    refine p0 hA 4 23 rfl (fun w => (q_move rfl)) fun a hA => ?_
    refine p0 hA 7 151 rfl (fun w => (q_nilCheck rfl)) fun a hA => ?_
    refine p0 hA 8 407 rfl (fun w => (q_fld 0 Tryd.underlying66 rfl rfl ti64 rfl)) fun a hA => ?_
    refine a1n hA 3 415 rfl (lo_bs (f := B8) (e := 5) ([]) hH rfl rfl (fun w => by kernel_rfl)) ?_
    clear hH; rintro v_t71 w ⟨N_t71, hO_t71, hH⟩
    intro a hA
    refine a1n hA 5 447 rfl (lo_appm hH Tryd.underlying32 Tryd.underlying32 (.inl rfl) ti5 rfl rfl rfl hO_t71 (Rd.src (Own.rd0 hO_b hH 1 rfl)) (one_B8 _) (by have q := runB_len ((fs i).op.take j) (fs i).sure; have q2 := (hfs i).2.2.2; have q3 := hfl i; rw [List.length_take] at q; first | omega | (simp; omega)) (by have q := runB_len ((fs i).op.take j) (fs i).sure; have q2 := (hfs i).2.2.2; have q3 := hfl i; rw [List.length_take] at q; first | omega | (simp; omega))) ?_
    clear hH; rintro v_t73 w ⟨N_t73, hO_t73, hH⟩
    intro a hA
    refine p0 hA 6 511 rfl (fun w => (q_buildC (css := [[v_b], [v_t73]]) (z := [(.slice none 0 0), (.slice none 0 0), (.slice none 0 0)]) (BT.mk (pl := [(0, 1), (1, 1), (2, 1)]) (it := Tryd.t63) (by kernel_rfl) Tryd.underlying63 (by kernel_rfl) (by kernel_rfl)) rfl ⟨cells_one (Own.one hO_b), ⟨_, rfl, by first | rfl | (simp [Value.cells]; done) | (simp [Value.cells, *]; done), by decide⟩, cells_one (Own.one hO_t73), ⟨_, rfl, by first | rfl | (simp [Value.cells]; done) | (simp [Value.cells, *]; done), by decide⟩, trivial⟩)) fun a hA => ?_
    refine p0 hA 9 1023 rfl (fun w => (q_idxAk i Tryd.underlying64 ti63 rfl rfl rfl hi4)) fun a hA => ?_
    replace hH := hH.pick [4, 0, 1, 2, 3, 5] (Hs' := [_, _, _, _, _, _]) rfl
    refine a0n hA 10 2047 rfl (lo_storeP hH ti63 rfl rfl (by first | rfl | (rw [tpC_length]; omega)) (by first | rfl | (rw [tpC_length]; omega)) (ones_cons (Own.one hO_b) (ones_cons (Own.one hO_t73) (ones_cons rfl ones_nil)))) ?_
    clear hH; rintro _ w hH
    replace hH : HS _ _ _ ([(b_x, Obj.cells (putAt (tpC vx (-1) false) (3 * i) [v_b, v_t73, nilV]).toArray 66 (0, 0))] :: _) := hH
    rw [tpC_put hi4] at hH
    replace hH := hH.nilFront
    replace hH := hH.pick [2, 0, 1, 3, 4, 5, 6] (Hs' := [_, _, _, _, _, _, _]) rfl
    replace hH := hH.join
    replace hH := hH.pick [2, 0, 1, 3, 4, 5] (Hs' := [_, _, _, _, _, _]) rfl
    replace hH := hH.join
    replace hH := hH.pick [4, 0, 1, 2, 3] (Hs' := [_, _, _, _, _]) rfl
    replace hH := hH.join
    refine a_end (by kernel_rfl) ?_ _
    refine block_normal ?_
    refine hK9 _ _ ?_
    clear hK9
    refine wp_region_lit ?_
    refine sq hA (q_addI (n := 1) rfl rfl (by omega)) rfl fun a hA => ?_
    refine mv hA fun a hA => ?_
    refine wpList_nil ?_
    replace hH := hH.pick [3, 2, 1, 0] (Hs' := [_, _, _, _]) rfl
    exact ⟨_, by omega, i + 1, (upd (upd (upd vx (3 * i) v_b) (3 * i + 1) v_t73) (3 * i + 2) nilV), N_y ++ (N_b ++ (N_t73 ++ [])), hA.sub ⟨rfl, rfl, rfl, rfl, trivial⟩, hH, by omega, by (intro k hk; rw [upd_ne _ _ (by omega), upd_ne _ _ (by omega), upd_ne _ _ (by omega)]; exact hvx k (by omega)), by exact ⟨N_y, _, rfl, hFs.move (fun k hk => by rw [upd_ne _ _ (by omega), upd_ne _ _ (by omega), upd_ne _ _ (by omega)]), N_b, N_t73, [], rfl, by rw [upd_ne _ _ (by omega), upd_ne _ _ (by omega), upd_at]; show Ow B8 5 v_b (left (fs i) (manyK ks i (fs i).op.length)) N_b; rw [← hmk]; exact hO_b, by rw [upd_ne _ _ (by omega), upd_at]; show Ow B8 5 v_t73 (left (fs i) (manyK ks i (fs i).op.length)) N_t73; rw [← hmk]; unfold left; simpa using hO_t73, by rw [upd_at]; exact Own.nil _ _⟩, rfl⟩
  ·skip
   have hmk0 : mk = 0 := by rw [hmk]; exact many_no (by omega)
   refine wp_skip ?_
   refine hK12 _ _ ?_
   clear hK12
   refine wp_seq_k fun K24 hK24 => ?_
   refine wp_region_lit ?_
   refine sl hA (lo_bs (f := B8) (e := 5) ([]) hH rfl rfl (fun w => by kernel_rfl)) rfl ?_
   clear hH; rintro v_t38 w ⟨N_t38, hO_t38, hH⟩ a hA
   refine mv hA fun a hA => ?_
   refine sq hA (q_nilCheck rfl) rfl fun a hA => ?_
   refine sq hA (q_fldo (3 * i) (3 * i) Tryd.underlying63 rfl rfl ti32 rfl) rfl fun a hA => ?_
   refine sq hA (q_loadB hH 1 rfl (List.mem_singleton.2 rfl) Tryd.underlying32 rfl rfl (tpC_at (by omega))) rfl fun a hA => ?_
   refine sl hA (lo_appm hH Tryd.underlying32 Tryd.underlying32 (.inl rfl) ti5 rfl rfl rfl hO_t38 (Rd.src ((hRs i hi4) [] _ (RO.of hH 2 rfl))) (one_B8 _) (by have q := (hfs i).2.2.2; first | omega | (simp; omega)) (by have q := (hfs i).2.2.2; first | omega | (simp; omega))) rfl ?_
   clear hH; rintro v_t43 w ⟨N_t43, hO_t43, hH⟩ a hA
   refine asg hA fun a hA => ?_
   refine wpList_nil ?_
   refine hK24 _ _ ?_
   clear hK24
   refine wp_seq_k fun K25 hK25 => ?_
   refine wp_seq_k fun K26 hK26 => ?_
   refine wp_region_lit ?_
   refine mv hA fun a hA => ?_
   refine sq hA (q_nilCheck rfl) rfl fun a hA => ?_
   refine sq hA (q_fldo (3 * i) (3 * i + 2) Tryd.underlying63 rfl rfl ti61 rfl) rfl fun a hA => ?_
   refine sq hA (q_loadB hH 1 rfl (List.mem_singleton.2 rfl) Tryd.underlying61 rfl rfl (tpC_at (by omega))) rfl fun a hA => ?_
   refine mv hA fun a hA => ?_
   obtain ⟨v_t49, hv49, hR49⟩ := Rd.piece0 (k := 2) (Rd.shp (hRo i hi4 [] _ (RO.of hH 2 rfl))) mk hmkl
   have hP49 : ∀ M w, RO M w N_c → Rd M w v_t49 mk 2 (cellsS ((fs i).op.take mk)) := fun M w hw => by have q := hR49 M w (hRo i hi4 M w hw); rw [cellsS_take] at q; exact q
   refine sq hA (q_slice Tryd.underlying61 ti76 rfl 0 mk hv49 (Rd.shp (hRo i hi4 [] _ (RO.of hH 2 rfl))) rfl rfl rfl (by first | rfl | omega) (Nat.zero_le _) hmkl) rfl fun a hA => ?_
   refine sq hA (q_len Tryd.underlying61 rfl (Rd.shp (hP49 [] _ (RO.of hH 2 rfl)))) rfl fun a hA => ?_
   refine mv hA fun a hA => ?_
   refine wpList_nil ?_
   refine hK26 _ _ ?_
   clear hK26
   refine wp_block ?_
   replace hH := hH.pick [0, 2, 1, 3, 4] (Hs' := [_, _, _, _, _]) rfl
   replace hH := HS.fold [_, _] [_, _, _] hH
   obtain ⟨NR27, hNR27, hH⟩ := hH
   refine wp_loop_ghost (fun gm a w => ∃ j : Nat, ∃ v_b : Value, ∃ N_b : Hl, At 80 [(51, I j), (50, I mk), (49, v_t49), (48, (I 0)), (47, (vs (3 * i + 2))), (46, (.pointer (some ⟨b_t, 3 * i + 2, none⟩))), (45, (.pointer (some ⟨b_t, 3 * i, none⟩))), (44, (.pointer (some ⟨b_t, 3 * i, none⟩))), (9, v_b), (43, v_t43), (42, (vs (3 * i))), (41, (.pointer (some ⟨b_t, 3 * i, none⟩))), (40, (.pointer (some ⟨b_t, 3 * i, none⟩))), (39, (.pointer (some ⟨b_t, 3 * i, none⟩))), (38, v_t38), (24, v), (23, (I i)), (8, (I 0)), (7, (.pointer (some ⟨b_t, 3 * i, none⟩))), (22, (.pointer (some ⟨b_t, 3 * i, none⟩))), (21, (.pointer (some ⟨b_t, 0, none⟩))), (20, (.pointer (some ⟨b_t, 0, none⟩))), (19, (I i)), (18, (.pointer (some ⟨b_t, 0, none⟩))), (6, (I i)), (17, (I i)), (15, (I i)), (5, (.pointer (some ⟨b_x, 0, none⟩))), (0, (.pointer (some ⟨b_t, 0, none⟩))), (1, v)] a ∧ HS (doms [[(b_t, Obj.cells (tpC vs f d).toArray 66 (0, 0))], N_c]) w0 w ([N_b, N_c, NR27]) ∧ (j ≤ mk) ∧ (Ow B8 5 v_b (runB (fs i).sure ((fs i).op.take j)) N_b) ∧ gm = mk - j) (mk - (0)) ⟨0, v_t43, N_t43, hA.sub ⟨rfl, rfl, rfl, rfl, rfl, rfl, rfl, rfl, rfl, rfl, rfl, rfl, rfl, rfl, rfl, rfl, rfl, rfl, rfl, rfl, rfl, rfl, rfl, rfl, rfl, rfl, rfl, rfl, rfl, rfl, trivial⟩, hH, by omega, by simpa [runB] using hO_t43, rfl⟩ ?_
   clear hA hH
   rintro gm a w ⟨j, v_b, N_b, hA, hH, hj, hO_b, rfl⟩
   refine wp_seq_k fun K28 hK28 => ?_
   refine wp_region_lit ?_
   refine sq hA (q_lssI rfl rfl) rfl fun a hA => ?_
   refine wpList_nil ?_
   refine hK28 _ _ ?_
   clear hK28
   refine wp_seq_k fun K29 hK29 => ?_
   refine cond_d hA rfl (fun hc52 => ?_) (fun hc52 => ?_)
   ·skip
    refine wp_skip ?_
    refine hK29 _ _ ?_
    clear hK29
    refine wp_seq_k fun K30 hK30 => ?_
    refine wp_block ?_
    refine wp_seq_k fun K31 hK31 => ?_
    refine wp_region_lit ?_
    refine sq hA (q_idxk (j) Tryd.underlying61 ti76 rfl rfl (by first | omega | rfl) (Rd.shp (hP49 [] _ (RO.of hH 1 rfl))) (by first | omega | (simp; done) | (simp; omega) | (rw [List.length_map]; assumption) | assumption | rfl | (simp [*]; done) | (simp [*]; omega))) rfl fun a hA => ?_
    obtain ⟨⟨pb, pc⟩, hpj0⟩ : ∃ p, (fs i).op[j]? = some p := ⟨_, List.getElem?_eq_getElem (show j < (fs i).op.length by omega)⟩
    have hpj : ((fs i).op.take mk)[j]? = some (pb, pc) := by rw [List.getElem?_take, if_pos (by omega)]; exact hpj0
    have hbl := runB_len ((fs i).op.take j) (fs i).sure
    have hfq := (hfs i).2.2.2
    have hfo := hfl i
    rw [List.length_take] at hbl
    rcases pb with _ | _
    ·skip
     refine sq hA (q_loadRs Tryd.underlying76 rfl ti76 rfl (hP49 [] _ (RO.of hH 1 rfl)) (by omega) _ (cellsS_at hpj)) rfl fun a hA => ?_
     refine sl hA (lo_allocA hH ti76) rfl ?_
     clear hH; rintro _ w ⟨b_t11, rfl, hH⟩ a hA
     refine s0 hA (lo_storeAm hH ti76 rfl rfl (rfl) (rfl) (ones_cons rfl (ones_cons rfl ones_nil))) ?_
     clear hH; rintro _ w hH
     refine wpList_nil ?_
     refine hK31 _ _ ?_
     clear hK31
     refine wp_seq_k fun K32 hK32 => ?_
     refine wp_region_lit ?_
     refine sq hA (q_fld 0 Tryd.underlying76 rfl rfl ti4 rfl) rfl fun a hA => ?_
     refine sq hA (q_loadB hH 0 rfl (List.mem_singleton.2 rfl) Tryd.underlying4 rfl rfl rfl) rfl fun a hA => ?_
     refine wpList_nil ?_
     refine hK32 _ _ ?_
     clear hK32
     refine cond_f hA rfl ?_
     refine wp_region_lit ?_
     refine mv hA fun a hA => ?_
     refine sq hA (q_fld 1 Tryd.underlying76 rfl rfl ti3 rfl) rfl fun a hA => ?_
     refine sq hA (q_loadB hH 0 rfl (List.mem_singleton.2 rfl) Tryd.underlying3 rfl rfl rfl) rfl fun a hA => ?_
     refine sq hA (q_cvI8 Tryd.underlying3 Tryd.underlying5 rfl) rfl fun a hA => ?_
     rw [BitVec.ofInt_natCast] at hA
     refine sl hA (lo_bs (f := B8) (e := 5) ([BitVec.ofNat 8 pc]) hH rfl rfl (fun w => by kernel_rfl)) rfl ?_
     clear hH; rintro v_t65 w ⟨N_t65, hO_t65, hH⟩ a hA
     replace hH := hH.pick [2, 0, 1, 3, 4] (Hs' := [_, _, _, _, _]) rfl
     refine sl hA (lo_appm hH Tryd.underlying32 Tryd.underlying32 (.inl rfl) ti5 rfl rfl rfl hO_b (Rd.src (Own.rd0 hO_t65 hH 1 rfl)) (one_B8 _) (by first | omega | (simp; omega)) (by first | omega | (simp; omega))) rfl ?_
     clear hH; rintro v_t66 w ⟨N_t66, hO_t66, hH⟩ a hA
     refine asg hA fun a hA => ?_
     refine wpList_nil ?_
     refine block_normal ?_
     refine hK30 _ _ ?_
     clear hK30
     refine wp_region_lit ?_
     refine sq hA (q_addI (n := 1) rfl rfl (by omega)) rfl fun a hA => ?_
     refine mv hA fun a hA => ?_
     refine wpList_nil ?_
     replace hH := hH.pick [0, 3, 4, 1, 2] (Hs' := [_, _, _, _, _]) rfl
     replace hH := hH.pick [0, 1, 2] (Hs' := [_, _, _]) rfl
     exact ⟨_, by omega, j + 1, v_t66, N_t66, hA.sub ⟨rfl, rfl, rfl, rfl, rfl, rfl, rfl, rfl, rfl, rfl, rfl, rfl, rfl, rfl, rfl, rfl, rfl, rfl, rfl, rfl, rfl, rfl, rfl, rfl, rfl, rfl, rfl, rfl, rfl, rfl, trivial⟩, hH, by omega, by first | (rw [runB_cut hpj0]; exact hO_t60) | (rw [runB_byte hpj0]; exact hO_t66), rfl⟩
    ·skip
     have hle := OpOk_at (hfs i).2.1 hpj0
     refine sq hA (q_loadRs Tryd.underlying76 rfl ti76 rfl (hP49 [] _ (RO.of hH 1 rfl)) (by omega) _ (cellsS_at hpj)) rfl fun a hA => ?_
     refine sl hA (lo_allocA hH ti76) rfl ?_
     clear hH; rintro _ w ⟨b_t11, rfl, hH⟩ a hA
     refine s0 hA (lo_storeAm hH ti76 rfl rfl (rfl) (rfl) (ones_cons rfl (ones_cons rfl ones_nil))) ?_
     clear hH; rintro _ w hH
     refine wpList_nil ?_
     refine hK31 _ _ ?_
     clear hK31
     refine wp_seq_k fun K33 hK33 => ?_
     refine wp_region_lit ?_
     refine sq hA (q_fld 0 Tryd.underlying76 rfl rfl ti4 rfl) rfl fun a hA => ?_
     refine sq hA (q_loadB hH 0 rfl (List.mem_singleton.2 rfl) Tryd.underlying4 rfl rfl rfl) rfl fun a hA => ?_
     refine wpList_nil ?_
     refine hK33 _ _ ?_
     clear hK33
     refine cond_t hA rfl ?_
     refine wp_region_lit ?_
     refine mv hA fun a hA => ?_
     refine sq hA (q_fld 1 Tryd.underlying76 rfl rfl ti3 rfl) rfl fun a hA => ?_
     refine sq hA (q_loadB hH 0 rfl (List.mem_singleton.2 rfl) Tryd.underlying3 rfl rfl rfl) rfl fun a hA => ?_
     obtain ⟨v_t60, hv_t60, hO_t60⟩ := Ow.cut0 hO_b (pc) (by first | exact hle | omega)
     refine sq hA (q_slice Tryd.underlying32 ti5 rfl (0) (pc) hv_t60 (Own.shp hO_b) rfl rfl (rfl) (rfl) (by first | exact hle | omega) (by first | exact hle | omega)) rfl fun a hA => ?_
     refine asg hA fun a hA => ?_
     refine wpList_nil ?_
     refine block_normal ?_
     refine hK30 _ _ ?_
     clear hK30
     refine wp_region_lit ?_
     refine sq hA (q_addI (n := 1) rfl rfl (by omega)) rfl fun a hA => ?_
     refine mv hA fun a hA => ?_
     refine wpList_nil ?_
     replace hH := hH.pick [1, 2, 3, 0] (Hs' := [_, _, _, _]) rfl
     replace hH := hH.pick [0, 1, 2] (Hs' := [_, _, _]) rfl
     exact ⟨_, by omega, j + 1, v_t60, N_b, hA.sub ⟨rfl, rfl, rfl, rfl, rfl, rfl, rfl, rfl, rfl, rfl, rfl, rfl, rfl, rfl, rfl, rfl, rfl, rfl, rfl, rfl, rfl, rfl, rfl, rfl, rfl, rfl, rfl, rfl, rfl, rfl, trivial⟩, hH, by omega, by first | (rw [runB_cut hpj0]; exact hO_t60) | (rw [runB_byte hpj0]; exact hO_t66), rfl⟩
   ·skip
    obtain rfl : j = mk := by omega
    refine wp_exit ?_
    refine then_exit ?_
    replace hH := HS.unfold [_, _] hNR27 hH
    refine then_exit ?_
    refine exit_here ?_
    refine hK25 _ _ ?_
    clear hK25
    refine any_go mixed (fun j => !(Nat.beq j 3 || Nat.beq j 5 || Nat.beq j 10)) hH ?_
    clear hH; intro w hH
    have hS := hH
    refine any_l 11 ?_
    refine p0 hA 0 1 rfl (fun w => (q_move rfl)) fun a hA => ?_
    refine p0 hA 1 3 rfl (fun w => (q_move rfl)) fun a hA => ?_
    refine p0 hA 2 7 rfl (fun w => (q_move rfl)) fun a hA => ?_
    refine p0 hA 4 23 rfl (fun w => (q_move rfl)) fun a hA => ?_
    refine p0 hA 7 151 rfl (fun w => (q_nilCheck rfl)) fun a hA => ?_
    refine p0 hA 8 407 rfl (fun w => (q_fld 0 Tryd.underlying66 rfl rfl ti64 rfl)) fun a hA => ?_
    refine a1n hA 3 415 rfl (lo_bs (f := B8) (e := 5) ([]) hH rfl rfl (fun w => by kernel_rfl)) ?_
    clear hH; rintro v_t71 w ⟨N_t71, hO_t71, hH⟩
    intro a hA
    refine a1n hA 5 447 rfl (lo_appm hH Tryd.underlying32 Tryd.underlying32 (.inl rfl) ti5 rfl rfl rfl hO_t71 (Rd.src (Own.rd0 hO_b hH 1 rfl)) (one_B8 _) (by have q := runB_len ((fs i).op.take j) (fs i).sure; have q2 := (hfs i).2.2.2; have q3 := hfl i; rw [List.length_take] at q; first | omega | (simp; omega)) (by have q := runB_len ((fs i).op.take j) (fs i).sure; have q2 := (hfs i).2.2.2; have q3 := hfl i; rw [List.length_take] at q; first | omega | (simp; omega))) ?_
    clear hH; rintro v_t73 w ⟨N_t73, hO_t73, hH⟩
    intro a hA
    refine p0 hA 6 511 rfl (fun w => (q_buildC (css := [[v_b], [v_t73]]) (z := [(.slice none 0 0), (.slice none 0 0), (.slice none 0 0)]) (BT.mk (pl := [(0, 1), (1, 1), (2, 1)]) (it := Tryd.t63) (by kernel_rfl) Tryd.underlying63 (by kernel_rfl) (by kernel_rfl)) rfl ⟨cells_one (Own.one hO_b), ⟨_, rfl, by first | rfl | (simp [Value.cells]; done) | (simp [Value.cells, *]; done), by decide⟩, cells_one (Own.one hO_t73), ⟨_, rfl, by first | rfl | (simp [Value.cells]; done) | (simp [Value.cells, *]; done), by decide⟩, trivial⟩)) fun a hA => ?_
    refine p0 hA 9 1023 rfl (fun w => (q_idxAk i Tryd.underlying64 ti63 rfl rfl rfl hi4)) fun a hA => ?_
    replace hH := hH.pick [4, 0, 1, 2, 3, 5] (Hs' := [_, _, _, _, _, _]) rfl
    refine a0n hA 10 2047 rfl (lo_storeP hH ti63 rfl rfl (by first | rfl | (rw [tpC_length]; omega)) (by first | rfl | (rw [tpC_length]; omega)) (ones_cons (Own.one hO_b) (ones_cons (Own.one hO_t73) (ones_cons rfl ones_nil)))) ?_
    clear hH; rintro _ w hH
    replace hH : HS _ _ _ ([(b_x, Obj.cells (putAt (tpC vx (-1) false) (3 * i) [v_b, v_t73, nilV]).toArray 66 (0, 0))] :: _) := hH
    rw [tpC_put hi4] at hH
    replace hH := hH.nilFront
    replace hH := hH.pick [2, 0, 1, 3, 4, 5, 6] (Hs' := [_, _, _, _, _, _, _]) rfl
    replace hH := hH.join
    replace hH := hH.pick [2, 0, 1, 3, 4, 5] (Hs' := [_, _, _, _, _, _]) rfl
    replace hH := hH.join
    replace hH := hH.pick [4, 0, 1, 2, 3] (Hs' := [_, _, _, _, _]) rfl
    replace hH := hH.join
    refine a_end (by kernel_rfl) ?_ _
    refine block_normal ?_
    refine hK9 _ _ ?_
    clear hK9
    refine wp_region_lit ?_
    refine sq hA (q_addI (n := 1) rfl rfl (by omega)) rfl fun a hA => ?_
    refine mv hA fun a hA => ?_
    refine wpList_nil ?_
    replace hH := hH.pick [3, 2, 1, 0] (Hs' := [_, _, _, _]) rfl
    exact ⟨_, by omega, i + 1, (upd (upd (upd vx (3 * i) v_b) (3 * i + 1) v_t73) (3 * i + 2) nilV), N_y ++ (N_b ++ (N_t73 ++ [])), hA.sub ⟨rfl, rfl, rfl, rfl, trivial⟩, hH, by omega, by (intro k hk; rw [upd_ne _ _ (by omega), upd_ne _ _ (by omega), upd_ne _ _ (by omega)]; exact hvx k (by omega)), by exact ⟨N_y, _, rfl, hFs.move (fun k hk => by rw [upd_ne _ _ (by omega), upd_ne _ _ (by omega), upd_ne _ _ (by omega)]), N_b, N_t73, [], rfl, by rw [upd_ne _ _ (by omega), upd_ne _ _ (by omega), upd_at]; show Ow B8 5 v_b (left (fs i) (manyK ks i (fs i).op.length)) N_b; rw [← hmk]; exact hO_b, by rw [upd_ne _ _ (by omega), upd_at]; show Ow B8 5 v_t73 (left (fs i) (manyK ks i (fs i).op.length)) N_t73; rw [← hmk]; unfold left; simpa using hO_t73, by rw [upd_at]; exact Own.nil _ _⟩, rfl⟩
 ·skip
  obtain rfl : i = 4 := by omega
  refine wp_exit ?_
  refine then_exit ?_
  refine then_exit ?_
  refine exit_here ?_
  refine hK5 _ _ ?_
  clear hK5
  replace hA := hA.s1 5
  refine wp_seq_k fun K34 hK34 => ?_
  refine wp_region_lit ?_
  refine mv hA fun a hA => ?_
  refine asg hA fun a hA => ?_
  refine wpList_nil ?_
  refine hK34 _ _ ?_
  clear hK34
  replace hA := hA.s1 4
  refine wp_ret ?_
  refine post_ret hA (res_1 rfl hA rfl) ?_
  exact ⟨_, rfl, b_x, vx, N_y, rfl, hFs, hH⟩

end Go.Proofs.YthhdilafnfcpbaaDoor
