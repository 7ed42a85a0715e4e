/- Layer 22 (worker): an order of bytes. -/
import Derived.Test.YtnnkgdijaekcfaaGreatDoorKa
import Derived.Test.YtnnkgdijaekcfaaGreatDoorBx
namespace Go.Proofs.YtnnkgdijaekcfaaGreatDoor
open Go
set_option linter.unusedVariables false
set_option linter.unusedSimpArgs false
set_option maxRecDepth 100000

set_option maxHeartbeats 1000000 in
theorem decw_any {w0 : World} {lv : Nat} (hg : Gl lv w0) (key : Bs) (hkey : key.length = 32) (v : Value) (l : Bs) (hr : By [] w0 v l) (hl : l.length ≤ 1000000) :
    Calls Tryz.prog 26 #[(.agg ((key).map B8).toArray), v] w0 (Ret fun r w' => ∃ t p N1 N2, r = .tuple #[.agg (ordC (decO key l).1.1 (decO key l).1.2.1 (decO key l).1.2.2.1 t p (decO key l).1.2.2.2.2.2).toArray, I (decO key l).2] ∧ Ow B8 5 t (decO key l).1.2.2.2.1 N1 ∧ Ow B8 5 p (decO key l).1.2.2.2.2.1 N2 ∧ HS [] w0 w' [N1, N2]) := by
 have hH := HS.start w0
 refine start (n := 64) (E := [(0, _), (1, _)]) Tryz.func26 rfl rfl rfl (args_look rfl) ?_
 intro a hA
 have htl := oT_len l
 have hml := oM_length l
 have hcl := oC_length l
 refine wp_seq_k fun K1 hK1 => ?_
 refine wp_region_lit ?_
 refine sl hA (lo_boxA hH rfl) rfl ?_
 clear hH; rintro _ w ⟨b_t2, rfl, hH⟩ a hA
 refine sl hA (lo_allocA hH ti45) rfl ?_
 clear hH; rintro _ w ⟨b_t4, rfl, hH⟩ a hA
 replace hH : HS _ _ _ ([(b_t4, Obj.cells (ordC 0 0 0 nilV nilV (List.replicate 32 0#8)).toArray 45 (0, 0))] :: _) := hH
 refine asg hA fun a hA => ?_
 refine wpList_nil ?_
 refine hK1 _ _ ?_
 clear hK1
 replace hA := hA.s4 5 4 2 1
 refine wp_seq_k fun K2 hK2 => ?_
 refine wp_region_lit ?_
 refine mv hA fun a hA => ?_
 refine sl hA (lo_call fn62 rfl (read_any _ _ (hH.rd hr) (by first | omega | (simp; done) | (simp; omega)))) rfl ?_
 rintro _ w ⟨b_t16, v_d16, N_d16, rfl, hO_d16, hC⟩ a hA
 replace hH := HS.call0 hH hC
 clear hC
 refine asg hA fun a hA => ?_
 refine wpList_nil ?_
 refine hK2 _ _ ?_
 clear hK2
 replace hA := hA.s5 6 5 4 2 1
 refine wp_seq_k fun K3 hK3 => ?_
 refine wp_region_lit ?_
 refine sl hA (lo_allocA hH ti45) rfl ?_
 clear hH; rintro _ w ⟨b_t7, rfl, hH⟩ a hA
 replace hH : HS _ _ _ ([(b_t7, Obj.cells (ordC 0 0 0 nilV nilV (List.replicate 32 0#8)).toArray 45 (0, 0))] :: _) := hH
 refine wpList_nil ?_
 refine hK3 _ _ ?_
 clear hK3
 refine wp_seq_k fun K4 hK4 => ?_
 refine wp_seq_k fun K5 hK5 => ?_
 refine wp_region_lit ?_
 refine sq hA (q_fld 0 Tryz.underlying45 rfl rfl ti3 rfl) rfl fun a hA => ?_
 refine sq hA (q_fld 1 Tryz.underlying45 rfl rfl ti3 rfl) rfl fun a hA => ?_
 refine sq hA (q_fld 2 Tryz.underlying45 rfl rfl ti3 rfl) rfl fun a hA => ?_
 refine sq hA (q_buildV (vs := [(.pointer (some ⟨b_t7, 0, none⟩)), (.pointer (some ⟨b_t7, 1, none⟩)), (.pointer (some ⟨b_t7, 2, none⟩))]) (zs := [(.pointer none), (.pointer none), (.pointer none)]) (it := Tryz.t121) (ie := Tryz.t120) (by kernel_rfl) Tryz.underlying121 (by kernel_rfl) (by kernel_rfl) rfl rfl rfl (ones_cons rfl (ones_cons rfl (ones_cons rfl ones_nil)))) rfl fun a hA => ?_
 refine mv hA fun a hA => ?_
 refine wpList_nil ?_
 refine hK5 _ _ ?_
 clear hK5
 replace hA := hA.s8 21 20 7 6 5 4 2 1
 refine wp_block ?_
 replace hH := hH.pick [1, 2, 0, 3, 4] (Hs' := [_, _, _, _, _]) rfl
 replace hH := HS.fold [_, _, _] [_, _] hH
 obtain ⟨NR6, hNR6, hH⟩ := hH
 refine wp_loop_ghost (fun gm a w => ∃ q : Nat, ∃ k : Nat, ∃ e : Nat, ∃ n0 : Int, ∃ n1 : Int, ∃ n2 : Int, At 64 [(21, I q), (20, (.agg #[.pointer (some ⟨b_t7, 0, none⟩), .pointer (some ⟨b_t7, 1, none⟩), .pointer (some ⟨b_t7, 2, none⟩)])), (7, (.pointer (some ⟨b_t7, 0, none⟩))), (6, (.pointer (some ⟨b_t16, 0, none⟩))), (5, (I 0)), (4, (.pointer (some ⟨b_t4, 0, none⟩))), (2, (.pointer (some ⟨b_t2, 0, none⟩))), (1, v)] a ∧ HS [] w0 w ([[(b_t16, Obj.cells [v_d16, I (k), I (e)].toArray 159 (0, 0))], N_d16, [(b_t7, Obj.cells (ordC n0 n1 n2 nilV nilV (List.replicate 32 0#8)).toArray 45 (0, 0))], NR6]) ∧ (q ≤ 3) ∧ (k ≤ l.length) ∧ (l.drop k = (oS l q).1) ∧ (e = (oS l q).2) ∧ (1 ≤ q → n0 = (oN l 0 : Nat)) ∧ (2 ≤ q → n1 = (oN l 1 : Nat)) ∧ (3 ≤ q → n2 = (oN l 2 : Nat)) ∧ gm = 3 - q) (3 - (0)) ⟨0, 0, 0, 0, 0, 0, hA.sub ⟨rfl, rfl, rfl, rfl, rfl, rfl, rfl, rfl, trivial⟩, hH, by omega, by exact Nat.zero_le _, by (rw [List.drop_zero, oS]), by rw [oS], by omega, by omega, by omega, rfl⟩ ?_
 clear hA hH
 rintro gm a w ⟨q, k, e, n0, n1, n2, hA, hH, hq, hk, hd, he, hn0, hn1, hn2, rfl⟩
 refine wp_seq_k fun K7 hK7 => ?_
 refine wp_region_lit ?_
 refine sq hA (q_lssI (n := 3) rfl rfl) rfl fun a hA => ?_
 rcases (show q = 0 ∨ q = 1 ∨ q = 2 ∨ q = 3 by omega) with rfl | rfl | rfl | rfl
 ·skip
  replace hA := hA.decT (by decide)
  refine wpList_nil ?_
  refine hK7 _ _ ?_
  clear hK7
  refine wp_seq_k fun K8 hK8 => ?_
  refine cond_t hA rfl ?_
  refine wp_skip ?_
  refine hK8 _ _ ?_
  clear hK8
  refine wp_seq_k fun K9 hK9 => ?_
  refine wp_block ?_
  refine wp_seq_k fun K10 hK10 => ?_
  refine wp_region_lit ?_
  refine sq hA (q_index Tryz.underlying121 ti120 Tryz.underlying120 rfl rfl rfl ⟨by decide, by decide⟩ rfl) rfl fun a hA => ?_
  refine asg hA fun a hA => ?_
  refine wpList_nil ?_
  refine hK10 _ _ ?_
  clear hK10
  refine wp_region_lit ?_
  refine mv hA fun a hA => ?_
  refine mv hA fun a hA => ?_
  refine sl hA (lo_call fn63 rfl (rnum_any b_t16 _ _ _ _ (Own.rdM hO_d16 (Ns1 := [_]) hH 0 rfl) hk (by omega) 1099511627776#64 tM (by decide) (HS.handed (Ns1 := [_]) hH))) rfl ?_
  rintro _ w ⟨k_t26, rfl, hk_t26, hd_t26, hC⟩ a hA
  replace hH := HS.call (Ns1 := [_]) hH hC
  clear hC
  have eS : (l.drop k, e) = oS l 0 := Prod.ext hd he
  rw [eS] at hA hH hd_t26
  rw [← oS_1] at hH hd_t26
  have hle := rNum_le tM (oS l 0)
  refine sq hA (q_cv64_I Tryz.underlying97 Tryz.underlying3 rfl (by exact Nat.le_trans hle (by decide))) rfl fun a hA => ?_
  rw [oN_eq] at hA
  refine sq hA (q_nilCheck rfl) rfl fun a hA => ?_
  replace hH := hH.pick [2, 0, 1, 3] (Hs' := [_, _, _, _]) rfl
  refine s0 hA (lo_store1 hH ti3 rfl rfl (by rw [ordC_length (by simp)]; decide) rfl) ?_
  clear hH; rintro _ w hH
  refine wpList_nil ?_
  refine block_normal ?_
  refine hK9 _ _ ?_
  clear hK9
  refine wp_region_lit ?_
  refine sq hA (q_addI (n := 1) rfl rfl (by omega)) rfl fun a hA => ?_
  refine mv hA fun a hA => ?_
  refine wpList_nil ?_
  replace hH := hH.pick [1, 2, 0, 3] (Hs' := [_, _, _, _]) rfl
  exact ⟨_, by omega, 1, k_t26, _, (oN l 0 : Nat), n1, n2, hA.sub ⟨rfl, rfl, rfl, rfl, rfl, rfl, rfl, rfl, trivial⟩, hH, by omega, by exact hk_t26, by exact hd_t26, by rfl, by omega, by omega, by omega, rfl⟩
 ·skip
  replace hA := hA.decT (by decide)
  refine wpList_nil ?_
  refine hK7 _ _ ?_
  clear hK7
  refine wp_seq_k fun K11 hK11 => ?_
  refine cond_t hA rfl ?_
  refine wp_skip ?_
  refine hK11 _ _ ?_
  clear hK11
  refine wp_seq_k fun K12 hK12 => ?_
  refine wp_block ?_
  refine wp_seq_k fun K13 hK13 => ?_
  refine wp_region_lit ?_
  refine sq hA (q_index Tryz.underlying121 ti120 Tryz.underlying120 rfl rfl rfl ⟨by decide, by decide⟩ rfl) rfl fun a hA => ?_
  refine asg hA fun a hA => ?_
  refine wpList_nil ?_
  refine hK13 _ _ ?_
  clear hK13
  refine wp_region_lit ?_
  refine mv hA fun a hA => ?_
  refine mv hA fun a hA => ?_
  refine sl hA (lo_call fn63 rfl (rnum_any b_t16 _ _ _ _ (Own.rdM hO_d16 (Ns1 := [_]) hH 0 rfl) hk (by omega) 1099511627776#64 tM (by decide) (HS.handed (Ns1 := [_]) hH))) rfl ?_
  rintro _ w ⟨k_t26, rfl, hk_t26, hd_t26, hC⟩ a hA
  replace hH := HS.call (Ns1 := [_]) hH hC
  clear hC
  have eS : (l.drop k, e) = oS l 1 := Prod.ext hd he
  rw [eS] at hA hH hd_t26
  rw [← oS_2] at hH hd_t26
  have hle := rNum_le tM (oS l 1)
  refine sq hA (q_cv64_I Tryz.underlying97 Tryz.underlying3 rfl (by exact Nat.le_trans hle (by decide))) rfl fun a hA => ?_
  rw [oN_eq] at hA
  refine sq hA (q_nilCheck rfl) rfl fun a hA => ?_
  replace hH := hH.pick [2, 0, 1, 3] (Hs' := [_, _, _, _]) rfl
  refine s0 hA (lo_store1 hH ti3 rfl rfl (by rw [ordC_length (by simp)]; decide) rfl) ?_
  clear hH; rintro _ w hH
  refine wpList_nil ?_
  refine block_normal ?_
  refine hK12 _ _ ?_
  clear hK12
  refine wp_region_lit ?_
  refine sq hA (q_addI (n := 1) rfl rfl (by omega)) rfl fun a hA => ?_
  refine mv hA fun a hA => ?_
  refine wpList_nil ?_
  replace hH := hH.pick [1, 2, 0, 3] (Hs' := [_, _, _, _]) rfl
  exact ⟨_, by omega, 2, k_t26, _, n0, (oN l 1 : Nat), n2, hA.sub ⟨rfl, rfl, rfl, rfl, rfl, rfl, rfl, rfl, trivial⟩, hH, by omega, by exact hk_t26, by exact hd_t26, by rfl, by omega, by omega, by omega, rfl⟩
 ·skip
  replace hA := hA.decT (by decide)
  refine wpList_nil ?_
  refine hK7 _ _ ?_
  clear hK7
  refine wp_seq_k fun K14 hK14 => ?_
  refine cond_t hA rfl ?_
  refine wp_skip ?_
  refine hK14 _ _ ?_
  clear hK14
  refine wp_seq_k fun K15 hK15 => ?_
  refine wp_block ?_
  refine wp_seq_k fun K16 hK16 => ?_
  refine wp_region_lit ?_
  refine sq hA (q_index Tryz.underlying121 ti120 Tryz.underlying120 rfl rfl rfl ⟨by decide, by decide⟩ rfl) rfl fun a hA => ?_
  refine asg hA fun a hA => ?_
  refine wpList_nil ?_
  refine hK16 _ _ ?_
  clear hK16
  refine wp_region_lit ?_
  refine mv hA fun a hA => ?_
  refine mv hA fun a hA => ?_
  refine sl hA (lo_call fn63 rfl (rnum_any b_t16 _ _ _ _ (Own.rdM hO_d16 (Ns1 := [_]) hH 0 rfl) hk (by omega) 1099511627776#64 tM (by decide) (HS.handed (Ns1 := [_]) hH))) rfl ?_
  rintro _ w ⟨k_t26, rfl, hk_t26, hd_t26, hC⟩ a hA
  replace hH := HS.call (Ns1 := [_]) hH hC
  clear hC
  have eS : (l.drop k, e) = oS l 2 := Prod.ext hd he
  rw [eS] at hA hH hd_t26
  rw [← oS_3] at hH hd_t26
  have hle := rNum_le tM (oS l 2)
  refine sq hA (q_cv64_I Tryz.underlying97 Tryz.underlying3 rfl (by exact Nat.le_trans hle (by decide))) rfl fun a hA => ?_
  rw [oN_eq] at hA
  refine sq hA (q_nilCheck rfl) rfl fun a hA => ?_
  replace hH := hH.pick [2, 0, 1, 3] (Hs' := [_, _, _, _]) rfl
  refine s0 hA (lo_store1 hH ti3 rfl rfl (by rw [ordC_length (by simp)]; decide) rfl) ?_
  clear hH; rintro _ w hH
  refine wpList_nil ?_
  refine block_normal ?_
  refine hK15 _ _ ?_
  clear hK15
  refine wp_region_lit ?_
  refine sq hA (q_addI (n := 1) rfl rfl (by omega)) rfl fun a hA => ?_
  refine mv hA fun a hA => ?_
  refine wpList_nil ?_
  replace hH := hH.pick [1, 2, 0, 3] (Hs' := [_, _, _, _]) rfl
  exact ⟨_, by omega, 3, k_t26, _, n0, n1, (oN l 2 : Nat), hA.sub ⟨rfl, rfl, rfl, rfl, rfl, rfl, rfl, rfl, trivial⟩, hH, by omega, by exact hk_t26, by exact hd_t26, by rfl, by omega, by omega, by omega, rfl⟩
 ·skip
  replace hA := hA.decF (by decide)
  have eS : (l.drop k, e) = oS l 3 := Prod.ext hd he
  refine wpList_nil ?_
  refine hK7 _ _ ?_
  clear hK7
  refine wp_seq_k fun K17 hK17 => ?_
  refine cond_f hA rfl ?_
  refine wp_exit ?_
  refine then_exit ?_
  replace hH := HS.unfold [_, _, _] hNR6 hH
  refine then_exit ?_
  refine exit_here ?_
  refine hK4 _ _ ?_
  clear hK4
  replace hA := hA.s6 7 6 5 4 2 1
  refine wp_seq_k fun K18 hK18 => ?_
  refine wp_region_lit ?_
  refine mv hA fun a hA => ?_
  refine sl hA (lo_call fn64 rfl (rtext_any b_t16 _ _ _ _ (Own.rdM hO_d16 (Ns1 := [_]) hH 0 rfl) hk (by omega) _ (by decide) (HS.handed (Ns1 := [_]) hH))) rfl ?_
  rintro _ w ⟨k_t31, v_t31, N_t31, rfl, hO_t31, hk_t31, hd_t31, hC⟩ a hA
  replace hH := HS.call (Ns1 := [_]) hH hC
  clear hC
  rw [eS] at hH hO_t31 hd_t31
  rw [oT_eq] at hO_t31
  rw [← oS_4] at hH hd_t31
  refine mv hA fun a hA => ?_
  refine sl hA (lo_call fn64 rfl (rtext_any b_t16 _ _ _ _ (Own.rdM hO_d16 (Ns1 := [_]) hH 1 rfl) hk_t31 (by omega) _ (by decide) (HS.handed (Ns1 := [_]) hH))) rfl ?_
  rintro _ w ⟨k_t33, v_t33, N_t33, rfl, hO_t33, hk_t33, hd_t33, hC⟩ a hA
  replace hH := HS.call (Ns1 := [_]) hH hC
  clear hC
  have eS4 : (l.drop k_t31, (oS l 4).2) = oS l 4 := Prod.ext hd_t31 rfl
  rw [eS4] at hH hO_t33 hd_t33
  rw [oP_eq] at hO_t33
  rw [← oS_5] at hH hd_t33
  refine sq hA (q_fld 3 Tryz.underlying45 rfl rfl ti41 rfl) rfl fun a hA => ?_
  replace hH := hH.pick [4, 0, 1, 2, 3, 5, 6] (Hs' := [_, _, _, _, _, _, _]) rfl
  refine s0 hA (lo_store1 hH ti41 rfl rfl (by rw [ordC_length (by simp)]; decide) (Own.one hO_t31)) ?_
  clear hH; rintro _ w hH
  rw [ordC_set3] at hH
  refine sq hA (q_fld 4 Tryz.underlying45 rfl rfl ti41 rfl) rfl fun a hA => ?_
  refine s0 hA (lo_store1 hH ti41 rfl rfl (by rw [ordC_length (by simp)]; decide) (Own.one hO_t33)) ?_
  clear hH; rintro _ w hH
  rw [ordC_set4] at hH
  refine wpList_nil ?_
  refine hK18 _ _ ?_
  clear hK18
  replace hA := hA.s6 7 6 5 4 2 1
  refine wp_seq_k fun K19 hK19 => ?_
  refine wp_region_lit ?_
  refine mv hA fun a hA => ?_
  replace hH := hH.pick [1, 0, 2, 3, 4, 5, 6] (Hs' := [_, _, _, _, _, _, _]) rfl
  refine sl hA (lo_call fn65 rfl (rdig_any b_t16 _ _ _ _ (Own.rdM hO_d16 (Ns1 := [_]) hH 3 rfl) hk_t33 (by omega) (HS.handed (Ns1 := [_]) hH))) rfl ?_
  rintro _ w ⟨k_t37, rfl, hk_t37, hd_t37, hC⟩ a hA
  replace hH := HS.call (Ns1 := [_]) hH hC
  clear hC
  have eS5 : (l.drop k_t33, (oS l 5).2) = oS l 5 := Prod.ext hd_t33 rfl
  rw [eS5] at hA hH hd_t37
  rw [oC_eq] at hA
  rw [← oS_6] at hH hd_t37
  refine sq hA (q_fld 5 Tryz.underlying45 rfl rfl ti25 rfl) rfl fun a hA => ?_
  replace hH := hH.pick [1, 0, 2, 3, 4, 5, 6] (Hs' := [_, _, _, _, _, _, _]) rfl
  refine s0 hA (lo_storeP hH ti25 rfl rfl (by first | exact hcl | (rw [List.length_map]; exact hcl) | (rw [ordC_length (by simp)]; decide) | (rw [List.length_set, List.length_set, ordC_length (by simp)]; decide)) (by first | exact hcl | (rw [List.length_map]; exact hcl) | (rw [ordC_length (by simp)]; decide) | (rw [List.length_set, List.length_set, ordC_length (by simp)]; decide)) (one_B8 _)) ?_
  clear hH; rintro _ w hH
  rw [ordC_put (by simp) hcl] at hH
  refine wpList_nil ?_
  refine hK19 _ _ ?_
  clear hK19
  replace hA := hA.s6 7 6 5 4 2 1
  refine wp_seq_k fun K20 hK20 => ?_
  refine wp_region_lit ?_
  refine mv hA fun a hA => ?_
  replace hH := hH.pick [1, 0, 2, 3, 4, 5, 6] (Hs' := [_, _, _, _, _, _, _]) rfl
  refine sl hA (lo_call fn65 rfl (rdig_any b_t16 _ _ _ _ (Own.rdM hO_d16 (Ns1 := [_]) hH 3 rfl) hk_t37 (by omega) (HS.handed (Ns1 := [_]) hH))) rfl ?_
  rintro _ w ⟨k_t40, rfl, hk_t40, hd_t40, hC⟩ a hA
  replace hH := HS.call (Ns1 := [_]) hH hC
  clear hC
  have eS6 : (l.drop k_t37, (oS l 6).2) = oS l 6 := Prod.ext hd_t37 rfl
  rw [eS6] at hA hH hd_t40
  rw [oM_eq] at hA
  rw [← oS_7] at hH hd_t40
  refine sl hA (lo_allocA hH ti25) rfl ?_
  clear hH; rintro _ w ⟨b_t10, rfl, hH⟩ a hA
  refine s0 hA (lo_storeAm hH ti25 rfl rfl (by first | assumption | (rw [List.length_map]; assumption) | rfl | exact sha_length _ | (simp; done) | (simp [*]; done) | omega) (by first | assumption | (rw [List.length_map]; assumption) | rfl | exact sha_length _ | (simp; done) | (simp [*]; done) | omega) (one_B8 _)) ?_
  clear hH; rintro _ w hH
  refine wpList_nil ?_
  refine hK20 _ _ ?_
  clear hK20
  replace hA := hA.s7 10 7 6 5 4 2 1
  refine wp_seq_k fun K21 hK21 => ?_
  refine wp_seq_k fun K22 hK22 => ?_
  refine wp_region_lit ?_
  refine mv hA fun a hA => ?_
  replace hH := hH.pick [1, 0, 2, 3, 4, 5, 6, 7] (Hs' := [_, _, _, _, _, _, _, _]) rfl
  refine sl hA (lo_call fn66 rfl (rend_any b_t16 _ _ _ _ (Own.rdM hO_d16 (Ns1 := [_]) hH 4 rfl) hk_t40 (by omega) (HS.handed (Ns1 := [_]) hH))) rfl ?_
  rintro _ w ⟨rfl, hC⟩ a hA
  replace hH := HS.call (Ns1 := [_]) hH hC
  clear hC
  have eS7 : (l.drop k_t40, (oS l 7).2) = oS l 7 := Prod.ext hd_t40 rfl
  rw [eS7] at hA hH
  refine asg hA fun a hA => ?_
  refine wpList_nil ?_
  refine hK22 _ _ ?_
  clear hK22
  replace hA := hA.s7 11 10 7 5 4 2 1
  refine wp_seq_k fun K23 hK23 => ?_
  refine wp_region_lit ?_
  refine mv hA fun a hA => ?_
  refine sq hA (q_neqI (n := 0) rfl rfl) rfl fun a hA => ?_
  refine wpList_nil ?_
  refine hK23 _ _ ?_
  clear hK23
  replace hA := hA.s8 44 11 10 7 5 4 2 1
  refine cond_d hA rfl (fun hc44 => ?_) (fun hc44 => ?_)
  ·skip
   have hR : decO key l = _ := decO_1 (by omega)
   refine wp_seq_k fun K24 hK24 => ?_
   refine wp_region_lit ?_
   refine sq hA (q_build (v := (.agg (ordC 0 0 0 nilV nilV (List.replicate 32 0#8)).toArray)) (vs := []) rfl (fun w => by kernel_rfl)) rfl fun a hA => ?_
   refine mv hA fun a hA => ?_
   replace hH := hH.pick [6, 0, 1, 2, 3, 4, 5, 7] (Hs' := [_, _, _, _, _, _, _, _]) rfl
   refine s0 hA (lo_storeAm hH ti45 rfl rfl (by first | rfl | exact ordC_length (by simp) | exact ordC_length hcl) (by first | rfl | exact ordC_length (by simp) | exact ordC_length hcl) (by first | exact ordC_one rfl rfl | exact ordC_one (Own.one hO_t31) (Own.one hO_t33))) ?_
   clear hH; rintro _ w hH
   refine asg hA fun a hA => ?_
   refine wpList_nil ?_
   refine hK24 _ _ ?_
   clear hK24
   replace hA := hA.s6 5 10 7 4 2 1
   refine wp_ret ?_
   refine then_ret ?_
   refine post_ret hA (res_c1 rfl hA rfl rfl (resW hH 0 rfl Tryz.underlying45 rfl ti45 (by first | rfl | exact ordC_length (by simp) | exact ordC_length hcl))) ?_
   replace hH := hH.pick [] (Hs' := []) rfl
   refine ⟨_, rfl, ?_⟩
   rw [hR]
   exact ⟨nilV, nilV, [], [], rfl, Ow.nil B8 _, Ow.nil B8 _, hH.nilFront.nilFront⟩
  ·skip
   have hE0 : ¬ (rEnd (oS l 7)).1 ≠ 0 := by omega
   obtain ⟨hz1, hz2⟩ := oS_zero (show (rEnd (oS l 7)).1 = 0 by omega)
   have hl32 := congrArg List.length hz1
   rw [List.length_append, hml] at hl32
   refine wp_skip ?_
   refine hK21 _ _ ?_
   clear hK21
   replace hA := hA.s6 10 7 5 4 2 1
   refine wp_seq_k fun K25 hK25 => ?_
   refine any_go mixed (fun j => !(Nat.beq j 6 || Nat.beq j 7 || Nat.beq j 8)) hH ?_
   clear hH; intro w hH
   have hS := hH
   refine any_l 9 ?_
   refine p0 hA 0 1 rfl (fun w => (q_sliceAll Tryz.underlying25 ti5 rfl)) fun a hA => ?_
   refine p0 hA 1 3 rfl (fun w => (q_move rfl)) fun a hA => ?_
   refine p0 hA 2 7 rfl (fun w => (q_move rfl)) fun a hA => ?_
   refine p0 hA 3 15 rfl (fun w => (q_len Tryz.underlying41 rfl (Rd.shp hr))) fun a hA => ?_
   refine p0 hA 4 31 rfl (fun w => (q_subI (n := 32) rfl rfl (by omega))) fun a hA => ?_
   rw [show ((l.length : Int) - 32) = ((l.length - 32 : Nat) : Int) by omega] at hA
   obtain ⟨v_t52, hv_t52, hO_t52⟩ := Rm.cut hr (0) (l.length - 32) (by first | omega | (simp; omega) | (simp [*]; omega)) (by first | omega | (simp; omega) | (simp [*]; omega))
   refine p0 hA 5 63 rfl (fun w => (q_slice Tryz.underlying41 ti5 rfl (0) (l.length - 32) hv_t52 (Rd.shp hr) rfl rfl (rfl) (rfl) (by first | omega | (simp; omega) | (simp [*]; omega)) (by first | omega | (simp; omega) | (simp [*]; omega)))) fun a hA => ?_
   refine a_ch2 (i := 6) (j := 7) (by kernel_rfl) ?_ ?_
   ·skip
    refine o1n hA 6 127 rfl (lo_call fn42 rfl (mac_any (hg.mono0 hH) _ _ _ _ (HS.byB hH 7 rfl (by first | assumption | (rw [List.length_map]; assumption) | rfl | exact sha_length _ | (simp; done) | (simp [*]; done) | omega)) (hH.rd hO_t52) (by first | omega | (simp; done) | (simp; omega)) (by first | omega | (simp; done) | (simp; omega)))) ?_
    rintro _ w ⟨rfl, hC⟩
    replace hH := HS.call0 hH hC
    clear hC
    intro a hA
    refine a1n hA 7 255 rfl (lo_allocA hH ti25) ?_
    clear hH; rintro _ w ⟨b_t12, rfl, hH⟩
    intro a hA
    refine a0n hA 8 511 rfl (lo_storeAm hH ti25 rfl rfl (by first | assumption | (rw [List.length_map]; assumption) | rfl | exact sha_length _ | (simp; done) | (simp [*]; done) | omega) (by first | assumption | (rw [List.length_map]; assumption) | rfl | exact sha_length _ | (simp; done) | (simp [*]; done) | omega) (one_B8 _)) ?_
    clear hH; rintro _ w hH
    refine a_end (by kernel_rfl) ?_ _
    refine hK25 _ _ ?_
    clear hK25
    replace hA := hA.s5 12 10 7 5 4
    refine wp_seq_k fun K26 hK26 => ?_
    refine wp_seq_k fun K27 hK27 => ?_
    refine any_go mixed (fun j => !(Nat.beq j 2)) hH ?_
    clear hH; intro w hH
    have hS := hH
    refine any_l 8 ?_
    refine p0 hA 0 1 rfl (fun w => (q_sliceAll Tryz.underlying25 ti5 rfl)) fun a hA => ?_
    refine p0 hA 1 3 rfl (fun w => (q_sliceAll Tryz.underlying25 ti5 rfl)) fun a hA => ?_
    refine a1n hA 2 7 rfl (lo_call fn67 rfl (msame_any _ _ _ _ (HS.byB hH 0 rfl (by first | assumption | (rw [List.length_map]; assumption) | rfl | exact sha_length _ | (simp; done) | (simp [*]; done) | omega)) (HS.byB hH 2 rfl (by first | assumption | (rw [List.length_map]; assumption) | rfl | exact sha_length _ | (simp; done) | (simp [*]; done) | omega)) (by first | omega | (simp; done) | (simp; omega)) (by first | omega | (simp; done) | (simp; omega)))) ?_
    rintro _ w ⟨rfl, hC⟩
    replace hH := HS.call0 hH hC
    clear hC
    intro a hA
    refine p0 hA 3 15 rfl (fun w => (q_move rfl)) fun a hA => ?_
    refine p0 hA 4 31 rfl (fun w => (q_extract rfl rfl)) fun a hA => ?_
    refine hA.spl (fun hs58 hA => ?_) (fun hs58 hA => ?_)
    ·skip
     have hR : decO key l = _ := decO_3 hE0 hs58.symm
     refine p0 hA 5 63 rfl (fun w => (q_extract rfl rfl)) fun a hA => ?_
     refine p0 hA 6 127 rfl (fun w => (q_assign rfl)) fun a hA => ?_
     refine p0 hA 7 255 rfl (fun w => (q_assign rfl)) fun a hA => ?_
     refine a_end (by kernel_rfl) ?_ _
     refine hK27 _ _ ?_
     clear hK27
     replace hA := hA.s4 13 7 5 4
     refine wp_seq_k fun K28 hK28 => ?_
     refine wp_region_lit ?_
     refine mv hA fun a hA => ?_
     refine sq hA (q_not rfl) rfl fun a hA => ?_
     refine wpList_nil ?_
     refine hK28 _ _ ?_
     clear hK28
     replace hA := hA.s4 61 7 5 4
     refine cond_f hA rfl ?_
     refine wp_skip ?_
     refine hK26 _ _ ?_
     clear hK26
     replace hA := hA.s3 7 5 4
     refine wp_seq_k fun K29 hK29 => ?_
     refine wp_region_lit ?_
     refine sq hA (q_loadW hH 3 rfl Tryz.underlying45 rfl ti45 rfl (by exact ordC_length hcl)) rfl fun a hA => ?_
     replace hH := hH.pick [7, 0, 1, 2, 3, 4, 5, 6, 8] (Hs' := [_, _, _, _, _, _, _, _, _]) rfl
     refine s0 hA (lo_storeAm hH ti45 rfl rfl (by first | rfl | exact ordC_length (by simp) | exact ordC_length hcl) (by first | rfl | exact ordC_length (by simp) | exact ordC_length hcl) (by first | exact ordC_one rfl rfl | exact ordC_one (Own.one hO_t31) (Own.one hO_t33))) ?_
     clear hH; rintro _ w hH
     refine asg hA fun a hA => ?_
     refine wpList_nil ?_
     refine hK29 _ _ ?_
     clear hK29
     replace hA := hA.s2 5 4
     refine wp_ret ?_
     refine post_ret hA (res_c1 rfl hA rfl rfl (resW hH 0 rfl Tryz.underlying45 rfl ti45 (by first | rfl | exact ordC_length (by simp) | exact ordC_length hcl))) ?_
     replace hH := hH.pick [6, 5, 0, 1, 2, 3, 4, 7, 8] (Hs' := [_, _, _, _, _, _, _, _, _]) rfl
     replace hH := hH.pick [0, 1] (Hs' := [_, _]) rfl
     refine ⟨_, rfl, ?_⟩
     rw [hR]
     obtain rfl := hn0 (by omega)
     obtain rfl := hn1 (by omega)
     obtain rfl := hn2 (by omega)
     exact ⟨v_t31, v_t33, N_t31, N_t33, rfl, hO_t31, hO_t33, hH⟩
    ·skip
     have hR : decO key l = _ := decO_2 hE0 (fun h => hs58 h.symm)
     refine p0 hA 5 63 rfl (fun w => (q_extract rfl rfl)) fun a hA => ?_
     refine p0 hA 6 127 rfl (fun w => (q_assign rfl)) fun a hA => ?_
     refine p0 hA 7 255 rfl (fun w => (q_assign rfl)) fun a hA => ?_
     refine a_end (by kernel_rfl) ?_ _
     refine hK27 _ _ ?_
     clear hK27
     replace hA := hA.s4 13 7 5 4
     refine wp_seq_k fun K30 hK30 => ?_
     refine wp_region_lit ?_
     refine mv hA fun a hA => ?_
     refine sq hA (q_not rfl) rfl fun a hA => ?_
     refine wpList_nil ?_
     refine hK30 _ _ ?_
     clear hK30
     replace hA := hA.s4 61 7 5 4
     refine cond_t hA rfl ?_
     refine wp_seq_k fun K31 hK31 => ?_
     refine wp_region_lit ?_
     refine sq hA (q_build (v := (.agg (ordC 0 0 0 nilV nilV (List.replicate 32 0#8)).toArray)) (vs := []) rfl (fun w => by kernel_rfl)) rfl fun a hA => ?_
     replace hH := hH.pick [7, 0, 1, 2, 3, 4, 5, 6, 8] (Hs' := [_, _, _, _, _, _, _, _, _]) rfl
     refine s0 hA (lo_storeAm hH ti45 rfl rfl (by first | rfl | exact ordC_length (by simp) | exact ordC_length hcl) (by first | rfl | exact ordC_length (by simp) | exact ordC_length hcl) (by first | exact ordC_one rfl rfl | exact ordC_one (Own.one hO_t31) (Own.one hO_t33))) ?_
     clear hH; rintro _ w hH
     refine asg hA fun a hA => ?_
     refine wpList_nil ?_
     refine hK31 _ _ ?_
     clear hK31
     replace hA := hA.s3 5 7 4
     refine wp_ret ?_
     refine then_ret ?_
     refine post_ret hA (res_c1 rfl hA rfl rfl (resW hH 0 rfl Tryz.underlying45 rfl ti45 (by first | rfl | exact ordC_length (by simp) | exact ordC_length hcl))) ?_
     replace hH := hH.pick [] (Hs' := []) rfl
     refine ⟨_, rfl, ?_⟩
     rw [hR]
     exact ⟨nilV, nilV, [], [], rfl, Ow.nil B8 _, Ow.nil B8 _, hH.nilFront.nilFront⟩
   ·skip
    refine o1n hA 7 191 rfl (lo_allocA hH ti25) ?_
    clear hH; rintro _ w ⟨b_t12, rfl, hH⟩
    intro a hA
    refine a1n hA 6 255 rfl (lo_call fn42 rfl (mac_any (hg.mono0 hH) _ _ _ _ (HS.byB hH 8 rfl (by first | assumption | (rw [List.length_map]; assumption) | rfl | exact sha_length _ | (simp; done) | (simp [*]; done) | omega)) (hH.rd hO_t52) (by first | omega | (simp; done) | (simp; omega)) (by first | omega | (simp; done) | (simp; omega)))) ?_
    rintro _ w ⟨rfl, hC⟩
    replace hH := HS.call0 hH hC
    clear hC
    intro a hA
    refine a0n hA 8 511 rfl (lo_storeAm hH ti25 rfl rfl (by first | assumption | (rw [List.length_map]; assumption) | rfl | exact sha_length _ | (simp; done) | (simp [*]; done) | omega) (by first | assumption | (rw [List.length_map]; assumption) | rfl | exact sha_length _ | (simp; done) | (simp [*]; done) | omega) (one_B8 _)) ?_
    clear hH; rintro _ w hH
    refine a_end (by kernel_rfl) ?_ _
    refine hK25 _ _ ?_
    clear hK25
    replace hA := hA.s5 12 10 7 5 4
    refine wp_seq_k fun K32 hK32 => ?_
    refine wp_seq_k fun K33 hK33 => ?_
    refine any_go mixed (fun j => !(Nat.beq j 2)) hH ?_
    clear hH; intro w hH
    have hS := hH
    refine any_l 8 ?_
    refine p0 hA 0 1 rfl (fun w => (q_sliceAll Tryz.underlying25 ti5 rfl)) fun a hA => ?_
    refine p0 hA 1 3 rfl (fun w => (q_sliceAll Tryz.underlying25 ti5 rfl)) fun a hA => ?_
    refine a1n hA 2 7 rfl (lo_call fn67 rfl (msame_any _ _ _ _ (HS.byB hH 0 rfl (by first | assumption | (rw [List.length_map]; assumption) | rfl | exact sha_length _ | (simp; done) | (simp [*]; done) | omega)) (HS.byB hH 2 rfl (by first | assumption | (rw [List.length_map]; assumption) | rfl | exact sha_length _ | (simp; done) | (simp [*]; done) | omega)) (by first | omega | (simp; done) | (simp; omega)) (by first | omega | (simp; done) | (simp; omega)))) ?_
    rintro _ w ⟨rfl, hC⟩
    replace hH := HS.call0 hH hC
    clear hC
    intro a hA
    refine p0 hA 3 15 rfl (fun w => (q_move rfl)) fun a hA => ?_
    refine p0 hA 4 31 rfl (fun w => (q_extract rfl rfl)) fun a hA => ?_
    refine hA.spl (fun hs58 hA => ?_) (fun hs58 hA => ?_)
    ·skip
     have hR : decO key l = _ := decO_3 hE0 hs58.symm
     refine p0 hA 5 63 rfl (fun w => (q_extract rfl rfl)) fun a hA => ?_
     refine p0 hA 6 127 rfl (fun w => (q_assign rfl)) fun a hA => ?_
     refine p0 hA 7 255 rfl (fun w => (q_assign rfl)) fun a hA => ?_
     refine a_end (by kernel_rfl) ?_ _
     refine hK33 _ _ ?_
     clear hK33
     replace hA := hA.s4 13 7 5 4
     refine wp_seq_k fun K34 hK34 => ?_
     refine wp_region_lit ?_
     refine mv hA fun a hA => ?_
     refine sq hA (q_not rfl) rfl fun a hA => ?_
     refine wpList_nil ?_
     refine hK34 _ _ ?_
     clear hK34
     replace hA := hA.s4 61 7 5 4
     refine cond_f hA rfl ?_
     refine wp_skip ?_
     refine hK32 _ _ ?_
     clear hK32
     replace hA := hA.s3 7 5 4
     refine wp_seq_k fun K35 hK35 => ?_
     refine wp_region_lit ?_
     refine sq hA (q_loadW hH 3 rfl Tryz.underlying45 rfl ti45 rfl (by exact ordC_length hcl)) rfl fun a hA => ?_
     replace hH := hH.pick [7, 0, 1, 2, 3, 4, 5, 6, 8] (Hs' := [_, _, _, _, _, _, _, _, _]) rfl
     refine s0 hA (lo_storeAm hH ti45 rfl rfl (by first | rfl | exact ordC_length (by simp) | exact ordC_length hcl) (by first | rfl | exact ordC_length (by simp) | exact ordC_length hcl) (by first | exact ordC_one rfl rfl | exact ordC_one (Own.one hO_t31) (Own.one hO_t33))) ?_
     clear hH; rintro _ w hH
     refine asg hA fun a hA => ?_
     refine wpList_nil ?_
     refine hK35 _ _ ?_
     clear hK35
     replace hA := hA.s2 5 4
     refine wp_ret ?_
     refine post_ret hA (res_c1 rfl hA rfl rfl (resW hH 0 rfl Tryz.underlying45 rfl ti45 (by first | rfl | exact ordC_length (by simp) | exact ordC_length hcl))) ?_
     replace hH := hH.pick [6, 5, 0, 1, 2, 3, 4, 7, 8] (Hs' := [_, _, _, _, _, _, _, _, _]) rfl
     replace hH := hH.pick [0, 1] (Hs' := [_, _]) rfl
     refine ⟨_, rfl, ?_⟩
     rw [hR]
     obtain rfl := hn0 (by omega)
     obtain rfl := hn1 (by omega)
     obtain rfl := hn2 (by omega)
     exact ⟨v_t31, v_t33, N_t31, N_t33, rfl, hO_t31, hO_t33, hH⟩
    ·skip
     have hR : decO key l = _ := decO_2 hE0 (fun h => hs58 h.symm)
     refine p0 hA 5 63 rfl (fun w => (q_extract rfl rfl)) fun a hA => ?_
     refine p0 hA 6 127 rfl (fun w => (q_assign rfl)) fun a hA => ?_
     refine p0 hA 7 255 rfl (fun w => (q_assign rfl)) fun a hA => ?_
     refine a_end (by kernel_rfl) ?_ _
     refine hK33 _ _ ?_
     clear hK33
     replace hA := hA.s4 13 7 5 4
     refine wp_seq_k fun K36 hK36 => ?_
     refine wp_region_lit ?_
     refine mv hA fun a hA => ?_
     refine sq hA (q_not rfl) rfl fun a hA => ?_
     refine wpList_nil ?_
     refine hK36 _ _ ?_
     clear hK36
     replace hA := hA.s4 61 7 5 4
     refine cond_t hA rfl ?_
     refine wp_seq_k fun K37 hK37 => ?_
     refine wp_region_lit ?_
     refine sq hA (q_build (v := (.agg (ordC 0 0 0 nilV nilV (List.replicate 32 0#8)).toArray)) (vs := []) rfl (fun w => by kernel_rfl)) rfl fun a hA => ?_
     replace hH := hH.pick [7, 0, 1, 2, 3, 4, 5, 6, 8] (Hs' := [_, _, _, _, _, _, _, _, _]) rfl
     refine s0 hA (lo_storeAm hH ti45 rfl rfl (by first | rfl | exact ordC_length (by simp) | exact ordC_length hcl) (by first | rfl | exact ordC_length (by simp) | exact ordC_length hcl) (by first | exact ordC_one rfl rfl | exact ordC_one (Own.one hO_t31) (Own.one hO_t33))) ?_
     clear hH; rintro _ w hH
     refine asg hA fun a hA => ?_
     refine wpList_nil ?_
     refine hK37 _ _ ?_
     clear hK37
     replace hA := hA.s3 5 7 4
     refine wp_ret ?_
     refine then_ret ?_
     refine post_ret hA (res_c1 rfl hA rfl rfl (resW hH 0 rfl Tryz.underlying45 rfl ti45 (by first | rfl | exact ordC_length (by simp) | exact ordC_length hcl))) ?_
     replace hH := hH.pick [] (Hs' := []) rfl
     refine ⟨_, rfl, ?_⟩
     rw [hR]
     exact ⟨nilV, nilV, [], [], rfl, Ow.nil B8 _, Ow.nil B8 _, hH.nilFront.nilFront⟩

end Go.Proofs.YtnnkgdijaekcfaaGreatDoor
