/- Layer 22 (worker): the document's order of bytes. -/
import Derived.Test.YtnnkgdijaekcfaaGreatDoorKe
import Derived.Test.YtnnkgdijaekcfaaGreatDoorIe
namespace Go.Proofs.YtnnkgdijaekcfaaGreatDoor
open Go
set_option linter.unusedVariables false
set_option linter.unusedSimpArgs false
set_option maxRecDepth 100000

set_option maxHeartbeats 1000000 in
theorem refdecw_any {w0 : World} {lv : Nat} (hg : Gl (lv + 2) w0) (key : Bs) (hkey : key.length = 32) (v : Value) (l : Bs) (hr : By [] w0 v l) (hl : l.length ≤ 1000000) :
    Calls Tryz.prog 34 #[(.agg ((key).map B8).toArray), v] w0 (Ret fun r w' => ∃ t p N1 N2, r = .tuple #[.agg (ordC (decO key l).1.1 (decO key l).1.2.1 (decO key l).1.2.2.1 t p (decO key l).1.2.2.2.2.2).toArray, I (decO key l).2] ∧ Ow B8 5 t (decO key l).1.2.2.2.1 N1 ∧ Ow B8 5 p (decO key l).1.2.2.2.2.1 N2 ∧ HS [] w0 w' [N1, N2]) := by
 have hH := HS.start w0
 refine start (n := 51) (E := [(0, _), (1, _)]) Tryz.func34 rfl rfl rfl (args_look rfl) ?_
 intro a hA
 have htl := oT_len l
 have hml := oM_length l
 have hcl := oC_length l
 refine wp_seq_k fun K1 hK1 => ?_
 refine wp_region_lit ?_
 refine sl hA (lo_boxA hH rfl) rfl ?_
 clear hH; rintro _ w ⟨b_t2, rfl, hH⟩ a hA
 refine sl hA (lo_allocA hH ti45) rfl ?_
 clear hH; rintro _ w ⟨b_t4, rfl, hH⟩ a hA
 replace hH : HS _ _ _ ([(b_t4, Obj.cells (ordC 0 0 0 nilV nilV (List.replicate 32 0#8)).toArray 45 (0, 0))] :: _) := hH
 refine asg hA fun a hA => ?_
 refine wpList_nil ?_
 refine hK1 _ _ ?_
 clear hK1
 replace hA := hA.s4 5 4 2 1
 refine wp_seq_k fun K2 hK2 => ?_
 refine wp_region_lit ?_
 refine mv hA fun a hA => ?_
 refine sq hA (q_buildC (css := [[v]]) (z := [(.slice none 0 0), (I 0)]) (BT.mk (pl := [(0, 1), (1, 1)]) (it := Tryz.t134) (by kernel_rfl) Tryz.underlying134 (by kernel_rfl) (by kernel_rfl)) rfl ⟨cells_one (Rd.one hr), ⟨_, rfl, by first | rfl | (simp [Value.cells]; done) | (simp [Value.cells, *]; done), by decide⟩, trivial⟩) rfl fun a hA => ?_
 refine sl hA (lo_boxA hH rfl) rfl ?_
 clear hH; rintro _ w ⟨b_t12, rfl, hH⟩ a hA
 refine asg hA fun a hA => ?_
 refine wpList_nil ?_
 refine hK2 _ _ ?_
 clear hK2
 replace hA := hA.s4 6 5 4 2
 refine wp_seq_k fun K3 hK3 => ?_
 refine wp_region_lit ?_
 refine sl hA (lo_allocA hH ti45) rfl ?_
 clear hH; rintro _ w ⟨b_t7, rfl, hH⟩ a hA
 replace hH : HS _ _ _ ([(b_t7, Obj.cells (ordC 0 0 0 nilV nilV (List.replicate 32 0#8)).toArray 45 (0, 0))] :: _) := hH
 refine wpList_nil ?_
 refine hK3 _ _ ?_
 clear hK3
 refine wp_seq_k fun K4 hK4 => ?_
 refine wp_region_lit ?_
 refine mv hA fun a hA => ?_
 replace hH := hH.pick [1, 0, 2, 3] (Hs' := [_, _, _, _]) rfl
 refine sl hA (lo_call fn72 rfl (refrnum_q b_t12 _ (l, 0) (HS.rdM (Ns1 := [_]) hH hr) (by show l.length ≤ _; omega) 1099511627776#64 tM (by decide) (HS.handed (Ns1 := [_]) hH))) rfl ?_
 rintro _ w ⟨w_t14, rfl, hT_t14, hC⟩ a hA
 replace hH := HS.call (Ns1 := [_]) hH hC
 clear hC
 have e0 : ((l, 0) : RS) = oS l 0 := by rw [oS]
 rw [e0] at hA hH hT_t14
 have hle_t14 := rNum_le tM (oS l 0)
 have hr0 : By [] w0 v (oS l 0).1 := by rw [← e0]; exact hr
 rw [← oS_1] at hH hT_t14
 refine sq hA (q_cv64_I Tryz.underlying97 Tryz.underlying3 rfl (by exact Nat.le_trans hle_t14 (by decide))) rfl fun a hA => ?_
 rw [oN_eq] at hA
 refine sq hA (q_fld 0 Tryz.underlying45 rfl rfl ti3 rfl) rfl fun a hA => ?_
 replace hH := hH.pick [1, 0, 2, 3] (Hs' := [_, _, _, _]) rfl
 refine s0 hA (lo_store1 hH ti3 rfl rfl (by first | rfl | exact ordC_length (by simp) | (rw [ordC_length (by simp)]; decide) | exact ordC_length hcl | (rw [ordC_length hcl]; decide) | exact hcl | (rw [List.length_map]; exact hcl)) rfl) ?_
 clear hH; rintro _ w hH
 rw [ordC_set0] at hH
 refine wpList_nil ?_
 refine hK4 _ _ ?_
 clear hK4
 replace hA := hA.s5 7 6 5 4 2
 refine wp_seq_k fun K5 hK5 => ?_
 refine wp_region_lit ?_
 refine mv hA fun a hA => ?_
 replace hH := hH.pick [1, 0, 2, 3] (Hs' := [_, _, _, _]) rfl
 refine sl hA (lo_call fn72 rfl (refrnum_q b_t12 _ (oS l 1) (HS.rdM (Ns1 := [_]) hH (hT_t14 _ _ hr0)) (by have := oS_len l; omega) 1099511627776#64 tM (by decide) (HS.handed (Ns1 := [_]) hH))) rfl ?_
 rintro _ w ⟨w_t18, rfl, hT_t18, hC⟩ a hA
 replace hH := HS.call (Ns1 := [_]) hH hC
 clear hC
 have hle_t18 := rNum_le tM (oS l 1)
 rw [← oS_2] at hH hT_t18
 refine sq hA (q_cv64_I Tryz.underlying97 Tryz.underlying3 rfl (by exact Nat.le_trans hle_t18 (by decide))) rfl fun a hA => ?_
 rw [oN_eq] at hA
 refine sq hA (q_fld 1 Tryz.underlying45 rfl rfl ti3 rfl) rfl fun a hA => ?_
 replace hH := hH.pick [1, 0, 2, 3] (Hs' := [_, _, _, _]) rfl
 refine s0 hA (lo_store1 hH ti3 rfl rfl (by first | rfl | exact ordC_length (by simp) | (rw [ordC_length (by simp)]; decide) | exact ordC_length hcl | (rw [ordC_length hcl]; decide) | exact hcl | (rw [List.length_map]; exact hcl)) rfl) ?_
 clear hH; rintro _ w hH
 rw [ordC_set1] at hH
 refine wpList_nil ?_
 refine hK5 _ _ ?_
 clear hK5
 replace hA := hA.s5 7 6 5 4 2
 refine wp_seq_k fun K6 hK6 => ?_
 refine wp_region_lit ?_
 refine mv hA fun a hA => ?_
 replace hH := hH.pick [1, 0, 2, 3] (Hs' := [_, _, _, _]) rfl
 refine sl hA (lo_call fn72 rfl (refrnum_q b_t12 _ (oS l 2) (HS.rdM (Ns1 := [_]) hH (hT_t18 _ _ (hT_t14 _ _ hr0))) (by have := oS_len l; omega) 1099511627776#64 tM (by decide) (HS.handed (Ns1 := [_]) hH))) rfl ?_
 rintro _ w ⟨w_t22, rfl, hT_t22, hC⟩ a hA
 replace hH := HS.call (Ns1 := [_]) hH hC
 clear hC
 have hle_t22 := rNum_le tM (oS l 2)
 rw [← oS_3] at hH hT_t22
 refine sq hA (q_cv64_I Tryz.underlying97 Tryz.underlying3 rfl (by exact Nat.le_trans hle_t22 (by decide))) rfl fun a hA => ?_
 rw [oN_eq] at hA
 refine sq hA (q_fld 2 Tryz.underlying45 rfl rfl ti3 rfl) rfl fun a hA => ?_
 replace hH := hH.pick [1, 0, 2, 3] (Hs' := [_, _, _, _]) rfl
 refine s0 hA (lo_store1 hH ti3 rfl rfl (by first | rfl | exact ordC_length (by simp) | (rw [ordC_length (by simp)]; decide) | exact ordC_length hcl | (rw [ordC_length hcl]; decide) | exact hcl | (rw [List.length_map]; exact hcl)) rfl) ?_
 clear hH; rintro _ w hH
 rw [ordC_set2] at hH
 refine wpList_nil ?_
 refine hK6 _ _ ?_
 clear hK6
 replace hA := hA.s5 7 6 5 4 2
 refine wp_seq_k fun K7 hK7 => ?_
 refine wp_region_lit ?_
 refine mv hA fun a hA => ?_
 replace hH := hH.pick [1, 0, 2, 3] (Hs' := [_, _, _, _]) rfl
 refine sl hA (lo_call fn73 rfl (refrtext_q b_t12 _ (oS l 3) (HS.rdM (Ns1 := [_]) hH (hT_t22 _ _ (hT_t18 _ _ (hT_t14 _ _ hr0)))) (by have := oS_len l; omega) _ (by decide) (HS.handed (Ns1 := [_]) hH))) rfl ?_
 rintro _ w ⟨w_t26, v_t26, N_t26, rfl, hO_t26, hT_t26, hC⟩ a hA
 replace hH := HS.call (Ns1 := [_]) hH hC
 clear hC
 rw [oT_eq] at hO_t26
 rw [← oS_4] at hH hT_t26
 refine sq hA (q_fld 3 Tryz.underlying45 rfl rfl ti41 rfl) rfl fun a hA => ?_
 replace hH := hH.pick [2, 0, 1, 3, 4] (Hs' := [_, _, _, _, _]) rfl
 refine s0 hA (lo_store1 hH ti41 rfl rfl (by first | rfl | exact ordC_length (by simp) | (rw [ordC_length (by simp)]; decide) | exact ordC_length hcl | (rw [ordC_length hcl]; decide) | exact hcl | (rw [List.length_map]; exact hcl)) (Own.one hO_t26)) ?_
 clear hH; rintro _ w hH
 rw [ordC_set3] at hH
 refine wpList_nil ?_
 refine hK7 _ _ ?_
 clear hK7
 replace hA := hA.s5 7 6 5 4 2
 refine wp_seq_k fun K8 hK8 => ?_
 refine wp_region_lit ?_
 refine mv hA fun a hA => ?_
 replace hH := hH.pick [1, 0, 2, 3, 4] (Hs' := [_, _, _, _, _]) rfl
 refine sl hA (lo_call fn73 rfl (refrtext_q b_t12 _ (oS l 4) (HS.rdM (Ns1 := [_]) hH (hT_t26 _ _ (hT_t22 _ _ (hT_t18 _ _ (hT_t14 _ _ hr0))))) (by have := oS_len l; omega) _ (by decide) (HS.handed (Ns1 := [_]) hH))) rfl ?_
 rintro _ w ⟨w_t29, v_t29, N_t29, rfl, hO_t29, hT_t29, hC⟩ a hA
 replace hH := HS.call (Ns1 := [_]) hH hC
 clear hC
 rw [oP_eq] at hO_t29
 rw [← oS_5] at hH hT_t29
 refine sq hA (q_fld 4 Tryz.underlying45 rfl rfl ti41 rfl) rfl fun a hA => ?_
 replace hH := hH.pick [2, 0, 1, 3, 4, 5] (Hs' := [_, _, _, _, _, _]) rfl
 refine s0 hA (lo_store1 hH ti41 rfl rfl (by first | rfl | exact ordC_length (by simp) | (rw [ordC_length (by simp)]; decide) | exact ordC_length hcl | (rw [ordC_length hcl]; decide) | exact hcl | (rw [List.length_map]; exact hcl)) (Own.one hO_t29)) ?_
 clear hH; rintro _ w hH
 rw [ordC_set4] at hH
 refine wpList_nil ?_
 refine hK8 _ _ ?_
 clear hK8
 replace hA := hA.s5 7 6 5 4 2
 refine wp_seq_k fun K9 hK9 => ?_
 refine wp_region_lit ?_
 refine mv hA fun a hA => ?_
 replace hH := hH.pick [1, 0, 2, 3, 4, 5] (Hs' := [_, _, _, _, _, _]) rfl
 refine sl hA (lo_call fn74 rfl (refrdig_q b_t12 _ (oS l 5) (HS.rdM (Ns1 := [_]) hH (hT_t29 _ _ (hT_t26 _ _ (hT_t22 _ _ (hT_t18 _ _ (hT_t14 _ _ hr0)))))) (by have := oS_len l; omega) (HS.handed (Ns1 := [_]) hH))) rfl ?_
 rintro _ w ⟨w_t32, rfl, hT_t32, hC⟩ a hA
 replace hH := HS.call (Ns1 := [_]) hH hC
 clear hC
 rw [oC_eq] at hA
 rw [← oS_6] at hH hT_t32
 refine sq hA (q_fld 5 Tryz.underlying45 rfl rfl ti25 rfl) rfl fun a hA => ?_
 replace hH := hH.pick [1, 0, 2, 3, 4, 5] (Hs' := [_, _, _, _, _, _]) rfl
 refine s0 hA (lo_storeP hH ti25 rfl rfl (by first | rfl | exact ordC_length (by simp) | (rw [ordC_length (by simp)]; decide) | exact ordC_length hcl | (rw [ordC_length hcl]; decide) | exact hcl | (rw [List.length_map]; exact hcl)) (by first | rfl | exact ordC_length (by simp) | (rw [ordC_length (by simp)]; decide) | exact ordC_length hcl | (rw [ordC_length hcl]; decide) | exact hcl | (rw [List.length_map]; exact hcl)) (one_B8 _)) ?_
 clear hH; rintro _ w hH
 rw [ordC_put (by simp) hcl] at hH
 refine wpList_nil ?_
 refine hK9 _ _ ?_
 clear hK9
 replace hA := hA.s5 7 6 5 4 2
 refine wp_seq_k fun K10 hK10 => ?_
 refine wp_region_lit ?_
 refine mv hA fun a hA => ?_
 replace hH := hH.pick [1, 0, 2, 3, 4, 5] (Hs' := [_, _, _, _, _, _]) rfl
 refine sl hA (lo_call fn74 rfl (refrdig_q b_t12 _ (oS l 6) (HS.rdM (Ns1 := [_]) hH (hT_t32 _ _ (hT_t29 _ _ (hT_t26 _ _ (hT_t22 _ _ (hT_t18 _ _ (hT_t14 _ _ hr0))))))) (by have := oS_len l; omega) (HS.handed (Ns1 := [_]) hH))) rfl ?_
 rintro _ w ⟨w_t35, rfl, hT_t35, hC⟩ a hA
 replace hH := HS.call (Ns1 := [_]) hH hC
 clear hC
 rw [oM_eq] at hA
 rw [← oS_7] at hH hT_t35
 refine sl hA (lo_allocA hH ti25) rfl ?_
 clear hH; rintro _ w ⟨b_t8, rfl, hH⟩ a hA
 refine s0 hA (lo_storeAm hH ti25 rfl rfl (by first | (rw [List.length_map]; exact hml) | exact hml | (simp [hml]; done)) (by first | (rw [List.length_map]; exact hml) | exact hml | (simp [hml]; done)) (one_B8 _)) ?_
 clear hH; rintro _ w hH
 refine wpList_nil ?_
 refine hK10 _ _ ?_
 clear hK10
 replace hA := hA.s6 8 7 6 5 4 2
 refine wp_seq_k fun K11 hK11 => ?_
 refine wp_seq_k fun K12 hK12 => ?_
 refine wp_region_lit ?_
 refine mv hA fun a hA => ?_
 replace hH := hH.pick [1, 0, 2, 3, 4, 5, 6] (Hs' := [_, _, _, _, _, _, _]) rfl
 refine sl hA (lo_call fn75 rfl (refrend_q b_t12 _ (oS l 7) (HS.rdM (Ns1 := [_]) hH (hT_t35 _ _ (hT_t32 _ _ (hT_t29 _ _ (hT_t26 _ _ (hT_t22 _ _ (hT_t18 _ _ (hT_t14 _ _ hr0)))))))) (by have := oS_len l; omega) (HS.handed (Ns1 := [_]) hH))) rfl ?_
 rintro _ w ⟨rfl, hC⟩ a hA
 replace hH := HS.call (Ns1 := [_]) hH hC
 clear hC
 refine asg hA fun a hA => ?_
 refine wpList_nil ?_
 refine hK12 _ _ ?_
 clear hK12
 replace hA := hA.s6 9 8 7 5 4 2
 refine wp_seq_k fun K13 hK13 => ?_
 refine wp_region_lit ?_
 refine mv hA fun a hA => ?_
 refine sq hA (q_neqI (n := 0) rfl rfl) rfl fun a hA => ?_
 refine wpList_nil ?_
 refine hK13 _ _ ?_
 clear hK13
 replace hA := hA.s7 39 9 8 7 5 4 2
 refine cond_d hA rfl (fun hc39 => ?_) (fun hc39 => ?_)
 ·skip
  have hR : decO key l = _ := decO_1 (by omega)
  refine wp_seq_k fun K14 hK14 => ?_
  refine wp_region_lit ?_
  refine sq hA (q_build (v := (.agg (ordC 0 0 0 nilV nilV (List.replicate 32 0#8)).toArray)) (vs := []) rfl (fun w => by kernel_rfl)) rfl fun a hA => ?_
  refine mv hA fun a hA => ?_
  replace hH := hH.pick [5, 0, 1, 2, 3, 4, 6] (Hs' := [_, _, _, _, _, _, _]) rfl
  refine s0 hA (lo_storeAm hH ti45 rfl rfl (by first | rfl | exact ordC_length (by simp) | (rw [ordC_length (by simp)]; decide) | exact ordC_length hcl | (rw [ordC_length hcl]; decide) | exact hcl | (rw [List.length_map]; exact hcl)) (by first | rfl | exact ordC_length (by simp) | (rw [ordC_length (by simp)]; decide) | exact ordC_length hcl | (rw [ordC_length hcl]; decide) | exact hcl | (rw [List.length_map]; exact hcl)) (by first | exact ordC_one rfl rfl | exact ordC_one (Own.one hO_t26) (Own.one hO_t29))) ?_
  clear hH; rintro _ w hH
  refine asg hA fun a hA => ?_
  refine wpList_nil ?_
  refine hK14 _ _ ?_
  clear hK14
  replace hA := hA.s5 5 8 7 4 2
  refine wp_ret ?_
  refine then_ret ?_
  refine post_ret hA (res_c1 rfl hA rfl rfl (resW hH 0 rfl Tryz.underlying45 rfl ti45 (by first | rfl | exact ordC_length (by simp) | (rw [ordC_length (by simp)]; decide) | exact ordC_length hcl | (rw [ordC_length hcl]; decide) | exact hcl | (rw [List.length_map]; exact hcl)))) ?_
  replace hH := hH.pick [] (Hs' := []) rfl
  refine ⟨_, rfl, ?_⟩
  rw [hR]
  exact ⟨nilV, nilV, [], [], rfl, Ow.nil B8 _, Ow.nil B8 _, hH.nilFront.nilFront⟩
 ·skip
  have hE0 : ¬ (rEnd (oS l 7)).1 ≠ 0 := by omega
  have hz0 : (rEnd (oS l 7)).1 = 0 := by omega
  obtain ⟨hz1, hz2⟩ := oS_zero hz0
  refine wp_skip ?_
  refine hK11 _ _ ?_
  clear hK11
  replace hA := hA.s5 8 7 5 4 2
  refine wp_seq_k fun K15 hK15 => ?_
  refine wp_seq_k fun K16 hK16 => ?_
  refine any_go mixed (fun _ => true) hH ?_
  clear hH; intro w hH
  have hS := hH
  refine any_l 7 ?_
  refine r0 hA 0 1 rfl hS (fun w hH => (q_loadW hH 1 rfl Tryz.underlying25 rfl ti25 rfl (by first | assumption | (rw [List.length_map]; assumption) | rfl | exact sha_length _ | (simp; done) | (simp [*]; done) | omega))) fun a hA => ?_
  refine r0 hA 1 3 rfl hS (fun w hH => (q_loadW hH 6 rfl Tryz.underlying25 rfl ti25 rfl (by first | omega | (simp; done) | (simp; omega) | (rw [List.length_map]; assumption) | assumption | rfl | (simp [*]; done) | (simp [*]; omega)))) fun a hA => ?_
  refine r0 hA 3 11 rfl hS (fun w hH => (q_loadW hH 2 rfl Tryz.underlying45 rfl ti45 rfl (by first | rfl | exact ordC_length (by simp) | (rw [ordC_length (by simp)]; decide) | exact ordC_length hcl | (rw [ordC_length hcl]; decide) | exact hcl | (rw [List.length_map]; exact hcl)))) fun a hA => ?_
  refine a1 hA 2 15 rfl (lo_call fn60 rfl (refdigest_any _ (by first | assumption | (rw [List.length_map]; assumption) | rfl | exact sha_length _ | (simp; done) | (simp [*]; done) | omega))) ?_
  rintro _ w ⟨v_t44, N_t44, rfl, hO_t44, hC⟩
  replace hH := HS.call0 hH hC
  clear hC
  replace hS := hH.pick [1, 2, 3, 4, 5, 6, 7] (Hs' := [_, _, _, _, _, _, _]) rfl
  refine ⟨fun _ _ => hS, ?_⟩
  intro a hA
  refine a1 hA 4 31 rfl (lo_call fn59 rfl (refbody22_any _ _ _ _ _ _ _ (Own.rd0 hO_t26 hH 5 rfl) (Own.rd0 hO_t29 hH 4 rfl) (by first | omega | (simp; done) | (simp; omega)) (by first | omega | (simp; done) | (simp; omega)) _ (by first | assumption | (rw [List.length_map]; assumption) | rfl | exact sha_length _ | (simp; done) | (simp [*]; done) | omega) (hz2))) ?_
  rintro _ w ⟨v_t46, N_t46, rfl, hO_t46, hC⟩
  replace hH := HS.call0 hH hC
  clear hC
  replace hS := hH.pick [2, 3, 4, 5, 6, 7, 8] (Hs' := [_, _, _, _, _, _, _]) rfl
  refine ⟨fun _ _ => hS, ?_⟩
  intro a hA
  simp only [Int.toNat_natCast] at hO_t46
  rw [← oS_take hz0] at hO_t46
  have hlt := List.length_take_le (l.length - 32) l
  refine a1 hA 5 63 rfl (lo_call fn61 rfl (refmac_any (hg.mono0 hH) _ _ _ _ (Own.rd0 hO_t44 hH 1 rfl) (Own.rd0 hO_t46 hH 0 rfl) (by first | omega | (simp; done) | (simp; omega)) (by first | omega | (simp; done) | (simp; omega)))) ?_
  rintro _ w ⟨rfl, hC⟩
  replace hH := HS.call0 hH hC
  clear hC
  replace hS := hH.pick [2, 3, 4, 5, 6, 7, 8] (Hs' := [_, _, _, _, _, _, _]) rfl
  refine ⟨fun _ _ => hS, ?_⟩
  intro a hA
  refine p0 hA 6 127 rfl (fun w => (q_neqA8 eqa25 rfl rfl rfl rfl (by first | assumption | (rw [List.length_map]; assumption) | rfl | exact sha_length _ | (simp; done) | (simp [*]; done) | omega) (by first | assumption | (rw [List.length_map]; assumption) | rfl | exact sha_length _ | (simp; done) | (simp [*]; done) | omega))) fun a hA => ?_
  refine a_end (by kernel_rfl) ?_ _
  refine hK16 _ _ ?_
  clear hK16
  replace hA := hA.s4 48 7 5 4
  refine cond_d hA rfl (fun hc48 => ?_) (fun hc48 => ?_)
  ·skip
   have hR : decO key l = _ := decO_2 hE0 hc48
   refine wp_seq_k fun K17 hK17 => ?_
   refine wp_region_lit ?_
   refine sq hA (q_build (v := (.agg (ordC 0 0 0 nilV nilV (List.replicate 32 0#8)).toArray)) (vs := []) rfl (fun w => by kernel_rfl)) rfl fun a hA => ?_
   replace hH := hH.pick [7, 0, 1, 2, 3, 4, 5, 6, 8] (Hs' := [_, _, _, _, _, _, _, _, _]) rfl
   refine s0 hA (lo_storeAm hH ti45 rfl rfl (by first | rfl | exact ordC_length (by simp) | (rw [ordC_length (by simp)]; decide) | exact ordC_length hcl | (rw [ordC_length hcl]; decide) | exact hcl | (rw [List.length_map]; exact hcl)) (by first | rfl | exact ordC_length (by simp) | (rw [ordC_length (by simp)]; decide) | exact ordC_length hcl | (rw [ordC_length hcl]; decide) | exact hcl | (rw [List.length_map]; exact hcl)) (by first | exact ordC_one rfl rfl | exact ordC_one (Own.one hO_t26) (Own.one hO_t29))) ?_
   clear hH; rintro _ w hH
   refine asg hA fun a hA => ?_
   refine wpList_nil ?_
   refine hK17 _ _ ?_
   clear hK17
   replace hA := hA.s3 5 7 4
   refine wp_ret ?_
   refine then_ret ?_
   refine post_ret hA (res_c1 rfl hA rfl rfl (resW hH 0 rfl Tryz.underlying45 rfl ti45 (by first | rfl | exact ordC_length (by simp) | (rw [ordC_length (by simp)]; decide) | exact ordC_length hcl | (rw [ordC_length hcl]; decide) | exact hcl | (rw [List.length_map]; exact hcl)))) ?_
   replace hH := hH.pick [] (Hs' := []) rfl
   refine ⟨_, rfl, ?_⟩
   rw [hR]
   exact ⟨nilV, nilV, [], [], rfl, Ow.nil B8 _, Ow.nil B8 _, hH.nilFront.nilFront⟩
  ·skip
   have hR : decO key l = _ := decO_3 hE0 (Classical.byContradiction hc48)
   refine wp_skip ?_
   refine hK15 _ _ ?_
   clear hK15
   replace hA := hA.s3 7 5 4
   refine wp_seq_k fun K18 hK18 => ?_
   refine wp_region_lit ?_
   refine sq hA (q_loadW hH 4 rfl Tryz.underlying45 rfl ti45 rfl (by first | rfl | exact ordC_length (by simp) | (rw [ordC_length (by simp)]; decide) | exact ordC_length hcl | (rw [ordC_length hcl]; decide) | exact hcl | (rw [List.length_map]; exact hcl))) rfl fun a hA => ?_
   replace hH := hH.pick [7, 0, 1, 2, 3, 4, 5, 6, 8] (Hs' := [_, _, _, _, _, _, _, _, _]) rfl
   refine s0 hA (lo_storeAm hH ti45 rfl rfl (by first | rfl | exact ordC_length (by simp) | (rw [ordC_length (by simp)]; decide) | exact ordC_length hcl | (rw [ordC_length hcl]; decide) | exact hcl | (rw [List.length_map]; exact hcl)) (by first | rfl | exact ordC_length (by simp) | (rw [ordC_length (by simp)]; decide) | exact ordC_length hcl | (rw [ordC_length hcl]; decide) | exact hcl | (rw [List.length_map]; exact hcl)) (by first | exact ordC_one rfl rfl | exact ordC_one (Own.one hO_t26) (Own.one hO_t29))) ?_
   clear hH; rintro _ w hH
   refine asg hA fun a hA => ?_
   refine wpList_nil ?_
   refine hK18 _ _ ?_
   clear hK18
   replace hA := hA.s2 5 4
   refine wp_ret ?_
   refine post_ret hA (res_c1 rfl hA rfl rfl (resW hH 0 rfl Tryz.underlying45 rfl ti45 (by first | rfl | exact ordC_length (by simp) | (rw [ordC_length (by simp)]; decide) | exact ordC_length hcl | (rw [ordC_length hcl]; decide) | exact hcl | (rw [List.length_map]; exact hcl)))) ?_
   replace hH := hH.pick [7, 6, 0, 1, 2, 3, 4, 5, 8] (Hs' := [_, _, _, _, _, _, _, _, _]) rfl
   replace hH := hH.pick [0, 1] (Hs' := [_, _]) rfl
   refine ⟨_, rfl, ?_⟩
   rw [hR]
   exact ⟨v_t26, v_t29, N_t26, N_t29, rfl, hO_t26, hO_t29, hH⟩

end Go.Proofs.YtnnkgdijaekcfaaGreatDoor
