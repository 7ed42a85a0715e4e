/- Layer 12 (vault): the document's vault is opened. -/
import Derived.Test.YthhdilafnfcpbaaDoorJn
namespace Go.Proofs.YthhdilafnfcpbaaDoor
open Go
set_option linter.unusedVariables false
set_option linter.unusedSimpArgs false
set_option maxRecDepth 100000

set_option maxHeartbeats 2000000 in
theorem refopen_any {w0 : World} {lv : Nat} (hg : Gl (lv + 2) w0) (v v1 v2 : Value) (l l1 l2 : Bs) (hr : By [] w0 v l) (hr1 : By [] w0 v1 l1) (hr2 : By [] w0 v2 l2) (hl : l.length ≤ 1000000) (hl1 : l1.length ≤ 1000000) (hl2 : l2.length ≤ 1000000) :
    Calls Tryd.prog 19 #[v, v1, v2] w0 (Ret fun r w' => ∃ b_m N, r = .tuple #[.pointer (some ⟨b_m, 0, none⟩), I (jgood l)] ∧ MM 5 32 35 b_m (opnV l l1 l2).1 (opnV l l1 l2).2.1 (opnV l l1 l2).2.2 N ∧ HS [] w0 w' [N]) := by
 have hH := HS.start w0
 refine start (n := 91) (E := [(0, _), (1, _), (2, _)]) Tryd.func19 rfl rfl rfl (args_look rfl) ?_
 intro a hA
 refine wp_seq_k fun K1 hK1 => ?_
 refine wp_region_lit ?_
 refine asg hA fun a hA => ?_
 refine asg hA fun a hA => ?_
 refine wpList_nil ?_
 refine hK1 _ _ ?_
 clear hK1
 refine wp_seq_k fun K2 hK2 => ?_
 refine wp_region_lit ?_
 refine sq hA (q_build (v := (.agg ([(I 0), (.slice none 0 0), (.slice none 0 0)]).toArray)) (vs := []) rfl (fun w => by kernel_rfl)) rfl fun a hA => ?_
 refine sl hA (lo_boxA hH rfl) rfl ?_
 clear hH; rintro _ w ⟨b_t23, rfl, hH⟩ a hA
 replace hH : HS _ _ _ ([(b_t23, Obj.cells (mC 0 nilV nilV).toArray 35 (0, 0))] :: _) := hH
 refine asg hA fun a hA => ?_
 refine wpList_nil ?_
 refine hK2 _ _ ?_
 clear hK2
 replace hA := hA.s6 8 7 6 0 1 2
 refine wp_seq_k fun K3 hK3 => ?_
 refine wp_region_lit ?_
 refine mv hA fun a hA => ?_
 refine sl hA (lo_call fn38 rfl (refslot_any (hg.mono0 hH) _ _ (hH.rd hr1) (by omega) 1 (by decide))) rfl ?_
 rintro _ w ⟨v_t26, N_t26, rfl, hO_t26, hC⟩ a hA
 replace hH := HS.call0 hH hC
 clear hC
 refine mv hA fun a hA => ?_
 refine sq hA (q_extract rfl rfl) rfl fun a hA => ?_
 refine sq hA (q_extract rfl rfl) rfl fun a hA => ?_
 refine asg hA fun a hA => ?_
 refine asg hA fun a hA => ?_
 refine wpList_nil ?_
 refine hK3 _ _ ?_
 clear hK3
 replace hA := hA.s7 10 9 8 7 6 0 2
 refine wp_seq_k fun K4 hK4 => ?_
 refine wp_region_lit ?_
 refine mv hA fun a hA => ?_
 refine sl hA (lo_call fn38 rfl (refslot_any (hg.mono0 hH) _ _ (hH.rd hr2) (by omega) 0 (by decide))) rfl ?_
 rintro _ w ⟨v_t31, N_t31, rfl, hO_t31, hC⟩ a hA
 replace hH := HS.call0 hH hC
 clear hC
 refine mv hA fun a hA => ?_
 refine sq hA (q_extract rfl rfl) rfl fun a hA => ?_
 refine sq hA (q_extract rfl rfl) rfl fun a hA => ?_
 refine asg hA fun a hA => ?_
 refine asg hA fun a hA => ?_
 refine wpList_nil ?_
 refine hK4 _ _ ?_
 clear hK4
 replace hA := hA.s8 12 11 10 9 8 7 6 0
 refine wp_seq_k fun K5 hK5 => ?_
 refine wp_region_lit ?_
 refine mv hA fun a hA => ?_
 refine mv hA fun a hA => ?_
 refine mv hA fun a hA => ?_
 refine mv hA fun a hA => ?_
 rcases Classical.em ((slotP 1 l1).1 < (slotP 0 l2).1) with hp | hp
 ·skip
  refine sl hA (lo_call fn39 rfl (pick_any _ _ _ _)) rfl ?_
  rintro _ w ⟨rfl, hC⟩ a hA
  replace hH := HS.call0 hH hC
  clear hC
  rw [if_pos hp, if_pos hp] at hA
  obtain ⟨gg, tt, hgt⟩ : ∃ gg tt, slotP 0 l2 = (gg, tt) := ⟨_, _, rfl⟩
  have hpv : pickV (slotP 1 l1) (slotP 2 l2) = (gg, tt) := by rw [pickV, slotP_par (i := 2) (j := 0) rfl l2, if_pos hp]; exact hgt
  rw [hgt] at hA hO_t31
  dsimp only at hA hO_t31
  refine mv hA fun a hA => ?_
  refine sq hA (q_extract rfl rfl) rfl fun a hA => ?_
  refine sq hA (q_extract rfl rfl) rfl fun a hA => ?_
  refine asg hA fun a hA => ?_
  refine asg hA fun a hA => ?_
  refine wpList_nil ?_
  refine hK5 _ _ ?_
  clear hK5
  replace hA := hA.s6 14 13 8 7 6 0
  refine wp_seq_k fun K6 hK6 => ?_
  refine wp_region_lit ?_
  refine mv hA fun a hA => ?_
  refine mv hA fun a hA => ?_
  refine sq hA (q_nilCheck rfl) rfl fun a hA => ?_
  refine sq hA (q_fld 0 Tryd.underlying35 rfl rfl ti3 rfl) rfl fun a hA => ?_
  replace hH := hH.pick [2, 0, 1] (Hs' := [_, _, _]) rfl
  refine s0 hA (lo_store1 hH ti3 rfl rfl ((show 0 < 3 by decide)) rfl) ?_
  clear hH; rintro _ w hH
  rw [mC_gen] at hH
  refine wpList_nil ?_
  refine hK6 _ _ ?_
  clear hK6
  replace hA := hA.s5 14 8 7 6 0
  refine wp_seq_k fun K7 hK7 => ?_
  refine wp_region_lit ?_
  refine mv hA fun a hA => ?_
  refine mv hA fun a hA => ?_
  refine sq hA (q_nilCheck rfl) rfl fun a hA => ?_
  refine sq hA (q_fld 1 Tryd.underlying35 rfl rfl ti32 rfl) rfl fun a hA => ?_
  refine s0 hA (lo_store1 hH ti32 rfl rfl ((show 1 < 3 by decide)) (Own.one hO_t31)) ?_
  clear hH; rintro _ w hH
  rw [mC_text] at hH
  refine wpList_nil ?_
  refine hK7 _ _ ?_
  clear hK7
  replace hA := hA.s4 8 7 6 0
  refine wp_seq_k fun K8 hK8 => ?_
  refine wp_region_lit ?_
  refine asg hA fun a hA => ?_
  refine wpList_nil ?_
  refine hK8 _ _ ?_
  clear hK8
  refine wp_block ?_
  replace hH := hH.nilFront
  replace hH := hH.nilFront
  replace hH := hH.pick [2, 0, 1, 3, 4] (Hs' := [_, _, _, _, _]) rfl
  replace hH := HS.fold [_, _, _] [_, _] hH
  obtain ⟨NR9, hNR9, hH⟩ := hH
  refine wp_loop_ghost (fun gm a w => ∃ i : Nat, ∃ rq : Value, ∃ N_o : Hl, ∃ N_od : Hl, At 91 [(15, I (scN l i).2), (8, (.pointer (some ⟨b_t23, 0, none⟩))), (7, (I 0)), (0, v)] a ∧ HS [] w0 w ([[(b_t23, Obj.cells (mC gg v_t31 rq).toArray 35 (0, 0))], N_o, N_od, NR9]) ∧ (RowsH 32 rq (jrk gg (scN l i).1) N_o N_od) ∧ (∀ y ∈ (scN l i).1, recOk y = true) ∧ gm = l.length - (scN l i).2) (l.length - (scN l (0)).2) ⟨0, nilV, [], [], hA.sub ⟨rfl, rfl, rfl, rfl, trivial⟩, hH, by exact RowsH.nil _, by (intro y hy; cases hy), rfl⟩ ?_
  clear hA hH
  rintro gm a w ⟨i, rq, N_o, N_od, hA, hH, hR_o, hok, rfl⟩
  have hle := scN_le l i
  obtain ⟨z, hz⟩ : ∃ z, z = (scN l i).2 := ⟨_, rfl⟩
  rw [← hz] at hA hle
  refine wp_block ?_
  refine wp_seq_k fun K10 hK10 => ?_
  refine wp_region_lit ?_
  refine mv hA fun a hA => ?_
  refine mv hA fun a hA => ?_
  obtain ⟨v_t53, hv_t53, hP_t53⟩ := By.pieceE (Rd.shp hr) (z) (by omega) rfl
  refine sq hA (q_slice Tryd.underlying32 ti5 rfl (z) (_) hv_t53 (Rd.shp hr) rfl rfl (rfl) (by first | rfl | (simp; done) | omega) (by omega) (by omega)) rfl fun a hA => ?_
  refine sl hA (lo_call fn40 rfl (first_any (hg.mono0 hH) _ (l.drop z) (hH.rd (hP_t53 _ _ hr)) (by first | omega | (rw [List.length_drop]; omega)))) rfl ?_
  rintro _ w ⟨v_t54, N_t54, m_t54, rfl, hF_t54, hC⟩ a hA
  replace hH := HS.call0 hH hC
  clear hC
  refine mv hA fun a hA => ?_
  refine sq hA (q_extract rfl rfl) rfl fun a hA => ?_
  refine sq hA (q_extract rfl rfl) rfl fun a hA => ?_
  refine sq hA (q_extract rfl rfl) rfl fun a hA => ?_
  rcases hf : frV (l.drop z) with _ | ⟨x, n⟩
  ·skip
   rw [hf] at hA
   obtain ⟨hjk, hjg⟩ := jok_end (l := l) (i := i) (by rw [← hz]; exact hf) hok
   refine asg hA fun a hA => ?_
   refine asg hA fun a hA => ?_
   refine asg hA fun a hA => ?_
   refine wpList_nil ?_
   refine hK10 _ _ ?_
   clear hK10
   refine wp_seq_k fun K11 hK11 => ?_
   refine wp_seq_k fun K12 hK12 => ?_
   refine wp_region_lit ?_
   refine mv hA fun a hA => ?_
   refine sq hA (q_not rfl) rfl fun a hA => ?_
   refine wpList_nil ?_
   refine hK12 _ _ ?_
   clear hK12
   refine cond_t hA rfl ?_
   refine wp_seq_k fun K13 hK13 => ?_
   refine wp_region_lit ?_
   refine mv hA fun a hA => ?_
   refine mv hA fun a hA => ?_
   refine asg hA fun a hA => ?_
   refine asg hA fun a hA => ?_
   refine wpList_nil ?_
   refine hK13 _ _ ?_
   clear hK13
   refine wp_ret ?_
   refine then_ret ?_
   refine block_ret ?_
   refine then_ret ?_
   refine block_ret ?_
   replace hH := HS.unfold [_, _, _, _] hNR9 hH
   refine post_ret hA (res_2 rfl hA rfl rfl) ?_
   replace hH := hH.pick [2, 3, 0, 1, 4, 5] (Hs' := [_, _, _, _, _, _]) rfl
   replace hH := hH.join
   replace hH := hH.pick [3, 0, 1, 2, 4] (Hs' := [_, _, _, _, _]) rfl
   replace hH := hH.join
   replace hH := hH.pick [2, 0, 1, 3] (Hs' := [_, _, _, _]) rfl
   replace hH := hH.join
   replace hH := hH.pick [0] (Hs' := [_]) rfl
   have ho : opnV l l1 l2 = (gg, tt, jrk gg (scN l i).1) := by simp only [opnV, hpv, jrecs_k, hjk]
   rw [ho, hjg, ← hz]
   exact ⟨_, rfl, b_t23, _, rfl, ⟨v_t31, rq, N_t31, N_o, N_od, rfl, hO_t31, hR_o⟩, hH⟩
  ·skip
   rw [hf] at hA
   obtain ⟨hO_t54, rfl⟩ := hF_t54 x n hf
   obtain ⟨g1, g2, g3, g4⟩ := frV_det hf
   have g5 := wf_length x
   rw [List.length_drop] at g4
   have hs1 := scN_some (l := l) (i := i) (by rw [← hz]; exact hf)
   have hs2 : (scN l (i + 1)).2 = z + n := by rw [hs1, hz]
   have hs3 : (scN l (i + 1)).1 = (scN l i).1 ++ [x] := by rw [hs1]
   refine asg hA fun a hA => ?_
   refine asg hA fun a hA => ?_
   refine asg hA fun a hA => ?_
   refine wpList_nil ?_
   refine hK10 _ _ ?_
   clear hK10
   refine wp_seq_k fun K14 hK14 => ?_
   refine wp_seq_k fun K15 hK15 => ?_
   refine wp_region_lit ?_
   refine mv hA fun a hA => ?_
   refine sq hA (q_not rfl) rfl fun a hA => ?_
   refine wpList_nil ?_
   refine hK15 _ _ ?_
   clear hK15
   refine cond_f hA rfl ?_
   refine wp_skip ?_
   refine hK14 _ _ ?_
   clear hK14
   refine wp_seq_k fun K16 hK16 => ?_
   refine wp_region_lit ?_
   refine mv hA fun a hA => ?_
   refine sl hA (lo_call fn41 rfl (refpart_any _ _ (Own.rd0 hO_t54 hH 0 rfl) (by omega))) rfl ?_
   rintro _ w ⟨v_t64, N_t64, rfl, hO_t64, hC⟩ a hA
   replace hH := HS.call0 hH hC
   clear hC
   refine mv hA fun a hA => ?_
   refine sq hA (q_extract rfl rfl) rfl fun a hA => ?_
   refine sq hA (q_extract rfl rfl) rfl fun a hA => ?_
   refine sq hA (q_extract rfl rfl) rfl fun a hA => ?_
   rcases hb : (unp x).2.2 with _ | _
   ·skip
    rw [hb] at hA
    obtain ⟨hjk, hjg⟩ := jok_bad (l := l) (i := i) (x := x) (n := n) (by rw [← hz]; exact hf) hok (by rw [recOk, hb])
    refine asg hA fun a hA => ?_
    refine asg hA fun a hA => ?_
    refine asg hA fun a hA => ?_
    refine wpList_nil ?_
    refine hK16 _ _ ?_
    clear hK16
    refine wp_seq_k fun K17 hK17 => ?_
    refine wp_seq_k fun K18 hK18 => ?_
    refine wp_region_lit ?_
    refine mv hA fun a hA => ?_
    refine sq hA (q_not rfl) rfl fun a hA => ?_
    refine wpList_nil ?_
    refine hK18 _ _ ?_
    clear hK18
    refine cond_t hA rfl ?_
    refine wp_seq_k fun K19 hK19 => ?_
    refine wp_region_lit ?_
    refine mv hA fun a hA => ?_
    refine mv hA fun a hA => ?_
    refine asg hA fun a hA => ?_
    refine asg hA fun a hA => ?_
    refine wpList_nil ?_
    refine hK19 _ _ ?_
    clear hK19
    refine wp_ret ?_
    refine then_ret ?_
    refine block_ret ?_
    refine then_ret ?_
    refine block_ret ?_
    replace hH := HS.unfold [_, _, _, _, _] hNR9 hH
    refine post_ret hA (res_2 rfl hA rfl rfl) ?_
    replace hH := hH.pick [3, 4, 0, 1, 2, 5, 6] (Hs' := [_, _, _, _, _, _, _]) rfl
    replace hH := hH.join
    replace hH := hH.pick [4, 0, 1, 2, 3, 5] (Hs' := [_, _, _, _, _, _]) rfl
    replace hH := hH.join
    replace hH := hH.pick [3, 0, 1, 2, 4] (Hs' := [_, _, _, _, _]) rfl
    replace hH := hH.join
    replace hH := hH.pick [0] (Hs' := [_]) rfl
    have ho : opnV l l1 l2 = (gg, tt, jrk gg (scN l i).1) := by simp only [opnV, hpv, jrecs_k, hjk]
    rw [ho, hjg, ← hz]
    exact ⟨_, rfl, b_t23, _, rfl, ⟨v_t31, rq, N_t31, N_o, N_od, rfl, hO_t31, hR_o⟩, hH⟩
   ·skip
    rw [hb] at hA
    refine asg hA fun a hA => ?_
    refine asg hA fun a hA => ?_
    refine asg hA fun a hA => ?_
    refine wpList_nil ?_
    refine hK16 _ _ ?_
    clear hK16
    refine wp_seq_k fun K20 hK20 => ?_
    refine wp_seq_k fun K21 hK21 => ?_
    refine wp_region_lit ?_
    refine mv hA fun a hA => ?_
    refine sq hA (q_not rfl) rfl fun a hA => ?_
    refine wpList_nil ?_
    refine hK21 _ _ ?_
    clear hK21
    refine cond_f hA rfl ?_
    refine wp_skip ?_
    refine hK20 _ _ ?_
    clear hK20
    refine wp_seq_k fun K22 hK22 => ?_
    refine wp_seq_k fun K23 hK23 => ?_
    refine wp_region_lit ?_
    refine mv hA fun a hA => ?_
    refine mv hA fun a hA => ?_
    refine sq hA (q_nilCheck rfl) rfl fun a hA => ?_
    refine sq hA (q_fld 0 Tryd.underlying35 rfl rfl ti3 rfl) rfl fun a hA => ?_
    refine sq hA (q_loadB hH 2 rfl (List.mem_singleton.2 rfl) Tryd.underlying3 rfl rfl rfl) rfl fun a hA => ?_
    refine sq hA (q_eqlI rfl rfl) rfl fun a hA => ?_
    refine wpList_nil ?_
    refine hK23 _ _ ?_
    clear hK23
    refine cond_d hA rfl (fun hc77 => ?_) (fun hc77 => ?_)
    ·skip
     refine wp_region_lit ?_
     refine mv hA fun a hA => ?_
     refine mv hA fun a hA => ?_
     refine sq hA (q_nilCheck rfl) rfl fun a hA => ?_
     refine sq hA (q_fld 2 Tryd.underlying35 rfl rfl ti33 rfl) rfl fun a hA => ?_
     refine sq hA (q_loadB hH 2 rfl (List.mem_singleton.2 rfl) Tryd.underlying33 rfl rfl rfl) rfl fun a hA => ?_
     refine mv hA fun a hA => ?_
     refine sl hA (lo_build1 hH Tryd.underlying33 ti32 rfl rfl (Own.one hO_t64)) rfl ?_
     clear hH; rintro v_t84 w ⟨N_t84, hO_t84, hH⟩ a hA
     replace hH := hH.pick [4, 0, 1, 2, 3, 5, 6] (Hs' := [_, _, _, _, _, _, _]) rfl
     obtain ⟨vs_t85, hvl_t85, hvo_t85, hvr_t85⟩ := hR_o
     refine sl hA (lo_append hH Tryd.underlying33 Tryd.underlying33 (.inl rfl) ti32 rfl rfl rfl hvo_t85 (Rd.src (Own.rd0 hO_t84 hH 1 rfl)) (by intro u hu; rw [List.mem_singleton.1 hu]; exact Own.one hO_t64) (by first | omega | (have hsl := scN_count l i; have hjl := jrk_len gg (scN l i).1; omega)) (by first | omega | (have hsl := scN_count l i; have hjl := jrk_len gg (scN l i).1; omega))) rfl ?_
     clear hH; rintro v_t85 w ⟨N_t85, hO_t85, hH⟩ a hA
     replace hH := HS.join (hH.pick [2, 5, 0, 1, 3, 4, 6] (Hs' := [_, _, _, _, _, _, _]) rfl)
     obtain ⟨N_dt85, hN_dt85, hR_t85⟩ : ∃ N, N = _ ∧ RowsH 32 v_t85 _ N_t85 N := ⟨_, rfl, RowsH.snoc hvl_t85 hO_t85 hvr_t85 (Own.rdh hO_t64)⟩
     rw [← hN_dt85] at hH
     refine sq hA (q_nilCheck rfl) rfl fun a hA => ?_
     refine sq hA (q_fld 2 Tryd.underlying35 rfl rfl ti33 rfl) rfl fun a hA => ?_
     replace hH := hH.pick [4, 0, 1, 2, 3, 5] (Hs' := [_, _, _, _, _, _]) rfl
     refine s0 hA (lo_store1 hH ti33 rfl rfl ((show 2 < 3 by decide)) (RowsH.one hR_t85)) ?_
     clear hH; rintro _ w hH
     rw [mC_recs] at hH
     refine wpList_nil ?_
     refine hK22 _ _ ?_
     clear hK22
     refine wp_region_lit ?_
     refine mv hA fun a hA => ?_
     refine mv hA fun a hA => ?_
     refine sq hA (q_addI rfl rfl (by omega)) rfl fun a hA => ?_
     rw [show ((z : Nat) : Int) + ((n : Nat) : Int) = ((z + n : Nat) : Int) by omega] at hA
     refine asg hA fun a hA => ?_
     refine wpList_nil ?_
     refine block_normal ?_
     replace hH := hH.pick [0, 2, 1, 5, 3, 4] (Hs' := [_, _, _, _, _, _]) rfl
     replace hH := hH.pick [0, 1, 2, 3] (Hs' := [_, _, _, _]) rfl
     exact ⟨_, (by rw [hs2]; omega), i + 1, v_t85, N_t85, N_dt85, hA.sub ⟨(by rw [hs2]; rfl), rfl, rfl, rfl, trivial⟩, hH, by (rw [hs3, jrk_add]; first | (rw [if_pos (by omega)]; exact hR_t85) | (rw [if_neg (by omega)]; exact hR_o)), by (rw [hs3]; intro y hy; rcases List.mem_append.1 hy with h | h; exact hok y h; rw [List.mem_singleton.1 h, recOk, hb]), rfl⟩
    ·skip
     refine wp_skip ?_
     refine hK22 _ _ ?_
     clear hK22
     refine wp_region_lit ?_
     refine mv hA fun a hA => ?_
     refine mv hA fun a hA => ?_
     refine sq hA (q_addI rfl rfl (by omega)) rfl fun a hA => ?_
     rw [show ((z : Nat) : Int) + ((n : Nat) : Int) = ((z + n : Nat) : Int) by omega] at hA
     refine asg hA fun a hA => ?_
     refine wpList_nil ?_
     refine block_normal ?_
     replace hH := hH.pick [2, 3, 4, 5, 0, 1] (Hs' := [_, _, _, _, _, _]) rfl
     replace hH := hH.pick [0, 1, 2, 3] (Hs' := [_, _, _, _]) rfl
     exact ⟨_, (by rw [hs2]; omega), i + 1, rq, N_o, N_od, hA.sub ⟨(by rw [hs2]; rfl), rfl, rfl, rfl, trivial⟩, hH, by (rw [hs3, jrk_add]; first | (rw [if_pos (by omega)]; exact hR_t85) | (rw [if_neg (by omega)]; exact hR_o)), by (rw [hs3]; intro y hy; rcases List.mem_append.1 hy with h | h; exact hok y h; rw [List.mem_singleton.1 h, recOk, hb]), rfl⟩
 ·skip
  refine sl hA (lo_call fn39 rfl (pick_any _ _ _ _)) rfl ?_
  rintro _ w ⟨rfl, hC⟩ a hA
  replace hH := HS.call0 hH hC
  clear hC
  rw [if_neg hp, if_neg hp] at hA
  obtain ⟨gg, tt, hgt⟩ : ∃ gg tt, slotP 1 l1 = (gg, tt) := ⟨_, _, rfl⟩
  have hpv : pickV (slotP 1 l1) (slotP 2 l2) = (gg, tt) := by rw [pickV, slotP_par (i := 2) (j := 0) rfl l2, if_neg hp]; exact hgt
  rw [hgt] at hA hO_t26
  dsimp only at hA hO_t26
  refine mv hA fun a hA => ?_
  refine sq hA (q_extract rfl rfl) rfl fun a hA => ?_
  refine sq hA (q_extract rfl rfl) rfl fun a hA => ?_
  refine asg hA fun a hA => ?_
  refine asg hA fun a hA => ?_
  refine wpList_nil ?_
  refine hK5 _ _ ?_
  clear hK5
  replace hA := hA.s6 14 13 8 7 6 0
  refine wp_seq_k fun K24 hK24 => ?_
  refine wp_region_lit ?_
  refine mv hA fun a hA => ?_
  refine mv hA fun a hA => ?_
  refine sq hA (q_nilCheck rfl) rfl fun a hA => ?_
  refine sq hA (q_fld 0 Tryd.underlying35 rfl rfl ti3 rfl) rfl fun a hA => ?_
  replace hH := hH.pick [2, 0, 1] (Hs' := [_, _, _]) rfl
  refine s0 hA (lo_store1 hH ti3 rfl rfl ((show 0 < 3 by decide)) rfl) ?_
  clear hH; rintro _ w hH
  rw [mC_gen] at hH
  refine wpList_nil ?_
  refine hK24 _ _ ?_
  clear hK24
  replace hA := hA.s5 14 8 7 6 0
  refine wp_seq_k fun K25 hK25 => ?_
  refine wp_region_lit ?_
  refine mv hA fun a hA => ?_
  refine mv hA fun a hA => ?_
  refine sq hA (q_nilCheck rfl) rfl fun a hA => ?_
  refine sq hA (q_fld 1 Tryd.underlying35 rfl rfl ti32 rfl) rfl fun a hA => ?_
  refine s0 hA (lo_store1 hH ti32 rfl rfl ((show 1 < 3 by decide)) (Own.one hO_t26)) ?_
  clear hH; rintro _ w hH
  rw [mC_text] at hH
  refine wpList_nil ?_
  refine hK25 _ _ ?_
  clear hK25
  replace hA := hA.s4 8 7 6 0
  refine wp_seq_k fun K26 hK26 => ?_
  refine wp_region_lit ?_
  refine asg hA fun a hA => ?_
  refine wpList_nil ?_
  refine hK26 _ _ ?_
  clear hK26
  refine wp_block ?_
  replace hH := hH.nilFront
  replace hH := hH.nilFront
  replace hH := hH.pick [2, 0, 1, 3, 4] (Hs' := [_, _, _, _, _]) rfl
  replace hH := HS.fold [_, _, _] [_, _] hH
  obtain ⟨NR27, hNR27, hH⟩ := hH
  refine wp_loop_ghost (fun gm a w => ∃ i : Nat, ∃ rq : Value, ∃ N_o : Hl, ∃ N_od : Hl, At 91 [(15, I (scN l i).2), (8, (.pointer (some ⟨b_t23, 0, none⟩))), (7, (I 0)), (0, v)] a ∧ HS [] w0 w ([[(b_t23, Obj.cells (mC gg v_t26 rq).toArray 35 (0, 0))], N_o, N_od, NR27]) ∧ (RowsH 32 rq (jrk gg (scN l i).1) N_o N_od) ∧ (∀ y ∈ (scN l i).1, recOk y = true) ∧ gm = l.length - (scN l i).2) (l.length - (scN l (0)).2) ⟨0, nilV, [], [], hA.sub ⟨rfl, rfl, rfl, rfl, trivial⟩, hH, by exact RowsH.nil _, by (intro y hy; cases hy), rfl⟩ ?_
  clear hA hH
  rintro gm a w ⟨i, rq, N_o, N_od, hA, hH, hR_o, hok, rfl⟩
  have hle := scN_le l i
  obtain ⟨z, hz⟩ : ∃ z, z = (scN l i).2 := ⟨_, rfl⟩
  rw [← hz] at hA hle
  refine wp_block ?_
  refine wp_seq_k fun K28 hK28 => ?_
  refine wp_region_lit ?_
  refine mv hA fun a hA => ?_
  refine mv hA fun a hA => ?_
  obtain ⟨v_t53, hv_t53, hP_t53⟩ := By.pieceE (Rd.shp hr) (z) (by omega) rfl
  refine sq hA (q_slice Tryd.underlying32 ti5 rfl (z) (_) hv_t53 (Rd.shp hr) rfl rfl (rfl) (by first | rfl | (simp; done) | omega) (by omega) (by omega)) rfl fun a hA => ?_
  refine sl hA (lo_call fn40 rfl (first_any (hg.mono0 hH) _ (l.drop z) (hH.rd (hP_t53 _ _ hr)) (by first | omega | (rw [List.length_drop]; omega)))) rfl ?_
  rintro _ w ⟨v_t54, N_t54, m_t54, rfl, hF_t54, hC⟩ a hA
  replace hH := HS.call0 hH hC
  clear hC
  refine mv hA fun a hA => ?_
  refine sq hA (q_extract rfl rfl) rfl fun a hA => ?_
  refine sq hA (q_extract rfl rfl) rfl fun a hA => ?_
  refine sq hA (q_extract rfl rfl) rfl fun a hA => ?_
  rcases hf : frV (l.drop z) with _ | ⟨x, n⟩
  ·skip
   rw [hf] at hA
   obtain ⟨hjk, hjg⟩ := jok_end (l := l) (i := i) (by rw [← hz]; exact hf) hok
   refine asg hA fun a hA => ?_
   refine asg hA fun a hA => ?_
   refine asg hA fun a hA => ?_
   refine wpList_nil ?_
   refine hK28 _ _ ?_
   clear hK28
   refine wp_seq_k fun K29 hK29 => ?_
   refine wp_seq_k fun K30 hK30 => ?_
   refine wp_region_lit ?_
   refine mv hA fun a hA => ?_
   refine sq hA (q_not rfl) rfl fun a hA => ?_
   refine wpList_nil ?_
   refine hK30 _ _ ?_
   clear hK30
   refine cond_t hA rfl ?_
   refine wp_seq_k fun K31 hK31 => ?_
   refine wp_region_lit ?_
   refine mv hA fun a hA => ?_
   refine mv hA fun a hA => ?_
   refine asg hA fun a hA => ?_
   refine asg hA fun a hA => ?_
   refine wpList_nil ?_
   refine hK31 _ _ ?_
   clear hK31
   refine wp_ret ?_
   refine then_ret ?_
   refine block_ret ?_
   refine then_ret ?_
   refine block_ret ?_
   replace hH := HS.unfold [_, _, _, _] hNR27 hH
   refine post_ret hA (res_2 rfl hA rfl rfl) ?_
   replace hH := hH.pick [2, 3, 0, 1, 4, 5] (Hs' := [_, _, _, _, _, _]) rfl
   replace hH := hH.join
   replace hH := hH.pick [4, 0, 1, 2, 3] (Hs' := [_, _, _, _, _]) rfl
   replace hH := hH.join
   replace hH := hH.pick [2, 0, 1, 3] (Hs' := [_, _, _, _]) rfl
   replace hH := hH.join
   replace hH := hH.pick [0] (Hs' := [_]) rfl
   have ho : opnV l l1 l2 = (gg, tt, jrk gg (scN l i).1) := by simp only [opnV, hpv, jrecs_k, hjk]
   rw [ho, hjg, ← hz]
   exact ⟨_, rfl, b_t23, _, rfl, ⟨v_t26, rq, N_t26, N_o, N_od, rfl, hO_t26, hR_o⟩, hH⟩
  ·skip
   rw [hf] at hA
   obtain ⟨hO_t54, rfl⟩ := hF_t54 x n hf
   obtain ⟨g1, g2, g3, g4⟩ := frV_det hf
   have g5 := wf_length x
   rw [List.length_drop] at g4
   have hs1 := scN_some (l := l) (i := i) (by rw [← hz]; exact hf)
   have hs2 : (scN l (i + 1)).2 = z + n := by rw [hs1, hz]
   have hs3 : (scN l (i + 1)).1 = (scN l i).1 ++ [x] := by rw [hs1]
   refine asg hA fun a hA => ?_
   refine asg hA fun a hA => ?_
   refine asg hA fun a hA => ?_
   refine wpList_nil ?_
   refine hK28 _ _ ?_
   clear hK28
   refine wp_seq_k fun K32 hK32 => ?_
   refine wp_seq_k fun K33 hK33 => ?_
   refine wp_region_lit ?_
   refine mv hA fun a hA => ?_
   refine sq hA (q_not rfl) rfl fun a hA => ?_
   refine wpList_nil ?_
   refine hK33 _ _ ?_
   clear hK33
   refine cond_f hA rfl ?_
   refine wp_skip ?_
   refine hK32 _ _ ?_
   clear hK32
   refine wp_seq_k fun K34 hK34 => ?_
   refine wp_region_lit ?_
   refine mv hA fun a hA => ?_
   refine sl hA (lo_call fn41 rfl (refpart_any _ _ (Own.rd0 hO_t54 hH 0 rfl) (by omega))) rfl ?_
   rintro _ w ⟨v_t64, N_t64, rfl, hO_t64, hC⟩ a hA
   replace hH := HS.call0 hH hC
   clear hC
   refine mv hA fun a hA => ?_
   refine sq hA (q_extract rfl rfl) rfl fun a hA => ?_
   refine sq hA (q_extract rfl rfl) rfl fun a hA => ?_
   refine sq hA (q_extract rfl rfl) rfl fun a hA => ?_
   rcases hb : (unp x).2.2 with _ | _
   ·skip
    rw [hb] at hA
    obtain ⟨hjk, hjg⟩ := jok_bad (l := l) (i := i) (x := x) (n := n) (by rw [← hz]; exact hf) hok (by rw [recOk, hb])
    refine asg hA fun a hA => ?_
    refine asg hA fun a hA => ?_
    refine asg hA fun a hA => ?_
    refine wpList_nil ?_
    refine hK34 _ _ ?_
    clear hK34
    refine wp_seq_k fun K35 hK35 => ?_
    refine wp_seq_k fun K36 hK36 => ?_
    refine wp_region_lit ?_
    refine mv hA fun a hA => ?_
    refine sq hA (q_not rfl) rfl fun a hA => ?_
    refine wpList_nil ?_
    refine hK36 _ _ ?_
    clear hK36
    refine cond_t hA rfl ?_
    refine wp_seq_k fun K37 hK37 => ?_
    refine wp_region_lit ?_
    refine mv hA fun a hA => ?_
    refine mv hA fun a hA => ?_
    refine asg hA fun a hA => ?_
    refine asg hA fun a hA => ?_
    refine wpList_nil ?_
    refine hK37 _ _ ?_
    clear hK37
    refine wp_ret ?_
    refine then_ret ?_
    refine block_ret ?_
    refine then_ret ?_
    refine block_ret ?_
    replace hH := HS.unfold [_, _, _, _, _] hNR27 hH
    refine post_ret hA (res_2 rfl hA rfl rfl) ?_
    replace hH := hH.pick [3, 4, 0, 1, 2, 5, 6] (Hs' := [_, _, _, _, _, _, _]) rfl
    replace hH := hH.join
    replace hH := hH.pick [5, 0, 1, 2, 3, 4] (Hs' := [_, _, _, _, _, _]) rfl
    replace hH := hH.join
    replace hH := hH.pick [3, 0, 1, 2, 4] (Hs' := [_, _, _, _, _]) rfl
    replace hH := hH.join
    replace hH := hH.pick [0] (Hs' := [_]) rfl
    have ho : opnV l l1 l2 = (gg, tt, jrk gg (scN l i).1) := by simp only [opnV, hpv, jrecs_k, hjk]
    rw [ho, hjg, ← hz]
    exact ⟨_, rfl, b_t23, _, rfl, ⟨v_t26, rq, N_t26, N_o, N_od, rfl, hO_t26, hR_o⟩, hH⟩
   ·skip
    rw [hb] at hA
    refine asg hA fun a hA => ?_
    refine asg hA fun a hA => ?_
    refine asg hA fun a hA => ?_
    refine wpList_nil ?_
    refine hK34 _ _ ?_
    clear hK34
    refine wp_seq_k fun K38 hK38 => ?_
    refine wp_seq_k fun K39 hK39 => ?_
    refine wp_region_lit ?_
    refine mv hA fun a hA => ?_
    refine sq hA (q_not rfl) rfl fun a hA => ?_
    refine wpList_nil ?_
    refine hK39 _ _ ?_
    clear hK39
    refine cond_f hA rfl ?_
    refine wp_skip ?_
    refine hK38 _ _ ?_
    clear hK38
    refine wp_seq_k fun K40 hK40 => ?_
    refine wp_seq_k fun K41 hK41 => ?_
    refine wp_region_lit ?_
    refine mv hA fun a hA => ?_
    refine mv hA fun a hA => ?_
    refine sq hA (q_nilCheck rfl) rfl fun a hA => ?_
    refine sq hA (q_fld 0 Tryd.underlying35 rfl rfl ti3 rfl) rfl fun a hA => ?_
    refine sq hA (q_loadB hH 2 rfl (List.mem_singleton.2 rfl) Tryd.underlying3 rfl rfl rfl) rfl fun a hA => ?_
    refine sq hA (q_eqlI rfl rfl) rfl fun a hA => ?_
    refine wpList_nil ?_
    refine hK41 _ _ ?_
    clear hK41
    refine cond_d hA rfl (fun hc77 => ?_) (fun hc77 => ?_)
    ·skip
     refine wp_region_lit ?_
     refine mv hA fun a hA => ?_
     refine mv hA fun a hA => ?_
     refine sq hA (q_nilCheck rfl) rfl fun a hA => ?_
     refine sq hA (q_fld 2 Tryd.underlying35 rfl rfl ti33 rfl) rfl fun a hA => ?_
     refine sq hA (q_loadB hH 2 rfl (List.mem_singleton.2 rfl) Tryd.underlying33 rfl rfl rfl) rfl fun a hA => ?_
     refine mv hA fun a hA => ?_
     refine sl hA (lo_build1 hH Tryd.underlying33 ti32 rfl rfl (Own.one hO_t64)) rfl ?_
     clear hH; rintro v_t84 w ⟨N_t84, hO_t84, hH⟩ a hA
     replace hH := hH.pick [4, 0, 1, 2, 3, 5, 6] (Hs' := [_, _, _, _, _, _, _]) rfl
     obtain ⟨vs_t85, hvl_t85, hvo_t85, hvr_t85⟩ := hR_o
     refine sl hA (lo_append hH Tryd.underlying33 Tryd.underlying33 (.inl rfl) ti32 rfl rfl rfl hvo_t85 (Rd.src (Own.rd0 hO_t84 hH 1 rfl)) (by intro u hu; rw [List.mem_singleton.1 hu]; exact Own.one hO_t64) (by first | omega | (have hsl := scN_count l i; have hjl := jrk_len gg (scN l i).1; omega)) (by first | omega | (have hsl := scN_count l i; have hjl := jrk_len gg (scN l i).1; omega))) rfl ?_
     clear hH; rintro v_t85 w ⟨N_t85, hO_t85, hH⟩ a hA
     replace hH := HS.join (hH.pick [2, 5, 0, 1, 3, 4, 6] (Hs' := [_, _, _, _, _, _, _]) rfl)
     obtain ⟨N_dt85, hN_dt85, hR_t85⟩ : ∃ N, N = _ ∧ RowsH 32 v_t85 _ N_t85 N := ⟨_, rfl, RowsH.snoc hvl_t85 hO_t85 hvr_t85 (Own.rdh hO_t64)⟩
     rw [← hN_dt85] at hH
     refine sq hA (q_nilCheck rfl) rfl fun a hA => ?_
     refine sq hA (q_fld 2 Tryd.underlying35 rfl rfl ti33 rfl) rfl fun a hA => ?_
     replace hH := hH.pick [4, 0, 1, 2, 3, 5] (Hs' := [_, _, _, _, _, _]) rfl
     refine s0 hA (lo_store1 hH ti33 rfl rfl ((show 2 < 3 by decide)) (RowsH.one hR_t85)) ?_
     clear hH; rintro _ w hH
     rw [mC_recs] at hH
     refine wpList_nil ?_
     refine hK40 _ _ ?_
     clear hK40
     refine wp_region_lit ?_
     refine mv hA fun a hA => ?_
     refine mv hA fun a hA => ?_
     refine sq hA (q_addI rfl rfl (by omega)) rfl fun a hA => ?_
     rw [show ((z : Nat) : Int) + ((n : Nat) : Int) = ((z + n : Nat) : Int) by omega] at hA
     refine asg hA fun a hA => ?_
     refine wpList_nil ?_
     refine block_normal ?_
     replace hH := hH.pick [0, 2, 1, 5, 3, 4] (Hs' := [_, _, _, _, _, _]) rfl
     replace hH := hH.pick [0, 1, 2, 3] (Hs' := [_, _, _, _]) rfl
     exact ⟨_, (by rw [hs2]; omega), i + 1, v_t85, N_t85, N_dt85, hA.sub ⟨(by rw [hs2]; rfl), rfl, rfl, rfl, trivial⟩, hH, by (rw [hs3, jrk_add]; first | (rw [if_pos (by omega)]; exact hR_t85) | (rw [if_neg (by omega)]; exact hR_o)), by (rw [hs3]; intro y hy; rcases List.mem_append.1 hy with h | h; exact hok y h; rw [List.mem_singleton.1 h, recOk, hb]), rfl⟩
    ·skip
     refine wp_skip ?_
     refine hK40 _ _ ?_
     clear hK40
     refine wp_region_lit ?_
     refine mv hA fun a hA => ?_
     refine mv hA fun a hA => ?_
     refine sq hA (q_addI rfl rfl (by omega)) rfl fun a hA => ?_
     rw [show ((z : Nat) : Int) + ((n : Nat) : Int) = ((z + n : Nat) : Int) by omega] at hA
     refine asg hA fun a hA => ?_
     refine wpList_nil ?_
     refine block_normal ?_
     replace hH := hH.pick [2, 3, 4, 5, 0, 1] (Hs' := [_, _, _, _, _, _]) rfl
     replace hH := hH.pick [0, 1, 2, 3] (Hs' := [_, _, _, _]) rfl
     exact ⟨_, (by rw [hs2]; omega), i + 1, rq, N_o, N_od, hA.sub ⟨(by rw [hs2]; rfl), rfl, rfl, rfl, trivial⟩, hH, by (rw [hs3, jrk_add]; first | (rw [if_pos (by omega)]; exact hR_t85) | (rw [if_neg (by omega)]; exact hR_o)), by (rw [hs3]; intro y hy; rcases List.mem_append.1 hy with h | h; exact hok y h; rw [List.mem_singleton.1 h, recOk, hb]), rfl⟩

end Go.Proofs.YthhdilafnfcpbaaDoor
