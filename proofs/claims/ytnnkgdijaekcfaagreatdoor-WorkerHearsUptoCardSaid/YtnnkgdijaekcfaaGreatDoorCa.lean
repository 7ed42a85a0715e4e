/- Layer 6 (tree): the node above two. -/
import Derived.Test.YtnnkgdijaekcfaaGreatDoorLl
import Derived.Test.YtnnkgdijaekcfaaGreatDoorBi
import Derived.Test.YtnnkgdijaekcfaaGreatDoorMzb
namespace Go.Proofs.YtnnkgdijaekcfaaGreatDoor
open Go
set_option linter.unusedVariables false
set_option linter.unusedSimpArgs false
set_option maxRecDepth 100000

theorem above_any {w0 : World} {lv : Nat} (hg : Gl lv w0) (p q : Bs) (hp : p.length = 32) (hq : q.length = 32) :
    Calls Tryz.prog 116 #[(.agg ((p).map B8).toArray), (.agg ((q).map B8).toArray)] w0 (Ret fun r w' => r = .agg ((ab p q).map B8).toArray ∧ HS [] w0 w' []) := by
 have hH := HS.start w0
 refine start (n := 15) (E := [(0, _), (1, _)]) Tryz.func116 rfl rfl rfl (args_look rfl) ?_
 intro a hA
 refine wp_seq_k fun K1 hK1 => ?_
 refine wp_region_lit ?_
 refine sl hA (lo_boxA hH rfl) rfl ?_
 clear hH; rintro _ w ⟨b_t2, rfl, hH⟩ a hA
 refine sl hA (lo_boxA hH rfl) rfl ?_
 clear hH; rintro _ w ⟨b_t3, rfl, hH⟩ a hA
 refine sl hA (lo_allocA hH ti25) rfl ?_
 clear hH; rintro _ w ⟨b_t4, rfl, hH⟩ a hA
 refine wpList_nil ?_
 refine hK1 _ _ ?_
 clear hK1
 replace hA := hA.s3 4 3 2
 refine wp_seq_k fun K2 hK2 => ?_
 refine wp_region_lit ?_
 refine sl hA (lo_allocA hH ti183) rfl ?_
 clear hH; rintro _ w ⟨b_t5, rfl, hH⟩ a hA
 refine wpList_nil ?_
 refine hK2 _ _ ?_
 clear hK2
 refine wp_seq_k fun K3 hK3 => ?_
 refine wp_region_lit ?_
 refine sq hA (q_idxA1 (0) Tryz.underlying183 ti5 rfl rfl (rfl) (by first | omega | (simp; done) | (simp; omega) | (rw [List.length_map]; assumption) | assumption | rfl | (simp [*]; done) | (simp [*]; omega))) rfl fun a hA => ?_
 refine s0 hA (lo_store1m (u := 3#8) hH ti5 rfl rfl (by simp) rfl) ?_
 clear hH; rintro _ w hH
 refine wpList_nil ?_
 refine hK3 _ _ ?_
 clear hK3
 replace hA := hA.s4 5 4 3 2
 refine wp_seq_k fun K4 hK4 => ?_
 refine any_go mixed (fun j => !(Nat.beq j 2)) hH ?_
 clear hH; intro w hH
 have hS := hH
 refine any_l 3 ?_
 refine p0 hA 0 1 rfl (fun w => (q_sliceA Tryz.underlying183 ti5 rfl 1 65 rfl rfl rfl rfl (by omega) (by omega))) fun a hA => ?_
 refine p0 hA 1 3 rfl (fun w => (q_sliceAll Tryz.underlying25 ti5 rfl)) fun a hA => ?_
 refine a1n hA 2 7 rfl (lo_copyA (d := .invalid) hH Tryz.underlying41 ti5 rfl rfl (hH.rdB (T := _) 3 rfl (by first | (simp; done) | simp [*] | omega)) (by simp) (soft0 _) (one_B8 _)) ?_
 clear hH; rintro _ w ⟨rfl, hH⟩
 rw [show putAt _ 1 _ = (3#8 :: (p ++ List.replicate 32 0#8)).map B8 from abv_1 p hp] at hH
 intro a hA
 refine a_end (by kernel_rfl) ?_ _
 refine hK4 _ _ ?_
 clear hK4
 replace hA := hA.s3 5 4 3
 refine wp_seq_k fun K5 hK5 => ?_
 refine any_go mixed (fun j => !(Nat.beq j 2)) hH ?_
 clear hH; intro w hH
 have hS := hH
 refine any_l 3 ?_
 refine p0 hA 0 1 rfl (fun w => (q_sliceA Tryz.underlying183 ti5 rfl 33 65 rfl rfl rfl rfl (by omega) (by omega))) fun a hA => ?_
 refine p0 hA 1 3 rfl (fun w => (q_sliceAll Tryz.underlying25 ti5 rfl)) fun a hA => ?_
 refine a1n hA 2 7 rfl (lo_copyA (d := .invalid) hH Tryz.underlying41 ti5 rfl rfl (hH.rdB (T := _) 2 rfl (by first | (simp; done) | simp [*] | omega)) (by simp [hp]) (soft0 _) (one_B8 _)) ?_
 clear hH; rintro _ w ⟨rfl, hH⟩
 rw [show putAt _ 33 _ = (3#8 :: (p ++ q)).map B8 from abv_2 p q hp hq] at hH
 intro a hA
 refine a_end (by kernel_rfl) ?_ _
 refine hK5 _ _ ?_
 clear hK5
 replace hA := hA.s2 5 4
 refine wp_seq_k fun K6 hK6 => ?_
 refine wp_region_lit ?_
 refine sq hA (q_sliceAll Tryz.underlying183 ti5 rfl) rfl fun a hA => ?_
 refine sl hA (lo_call fn113 rfl (sum_any (hg.mono0 hH) _ (3#8 :: (p ++ q)) (HS.byB hH 0 rfl (by simp [hp, hq])) (by simp [hp, hq]))) rfl ?_
 rintro _ w ⟨rfl, hC⟩ a hA
 replace hH := HS.call0 hH hC
 clear hC
 replace hH := hH.pick [1, 0, 2, 3] (Hs' := [_, _, _, _]) rfl
 refine s0 hA (lo_storeAm hH ti25 rfl rfl (by first | rfl | (simp; done)) (by first | rfl | (simp; done)) (one_B8 _)) ?_
 clear hH; rintro _ w hH
 refine wpList_nil ?_
 refine hK6 _ _ ?_
 clear hK6
 replace hA := hA.s1 4
 refine wp_ret ?_
 refine post_ret hA (res_c rfl hA rfl (resW hH 0 rfl Tryz.underlying25 rfl ti25 (by first | assumption | (rw [List.length_map]; assumption) | rfl | exact sha_length _ | (simp; done) | (simp [*]; done) | omega))) ?_
 replace hH := hH.pick [] (Hs' := []) rfl
 exact ⟨_, rfl, rfl, hH⟩

theorem refabove_any {w0 : World} {lv : Nat} (hg : Gl (lv + 2) w0) (p q : Bs) (hp : p.length = 32) (hq : q.length = 32) :
    Calls Tryz.prog 93 #[(.agg ((p).map B8).toArray), (.agg ((q).map B8).toArray)] w0 (Ret fun r w' => r = .agg ((ab p q).map B8).toArray ∧ HS [] w0 w' []) := by
 have hH := HS.start w0
 refine start (n := 17) (E := [(0, _), (1, _)]) Tryz.func93 rfl rfl rfl (args_look rfl) ?_
 intro a hA
 refine wp_seq_k fun K1 hK1 => ?_
 refine wp_region_lit ?_
 refine sl hA (lo_boxA hH rfl) rfl ?_
 clear hH; rintro _ w ⟨b_t2, rfl, hH⟩ a hA
 refine sl hA (lo_boxA hH rfl) rfl ?_
 clear hH; rintro _ w ⟨b_t3, rfl, hH⟩ a hA
 refine sl hA (lo_allocA hH ti25) rfl ?_
 clear hH; rintro _ w ⟨b_t4, rfl, hH⟩ a hA
 refine wpList_nil ?_
 refine hK1 _ _ ?_
 clear hK1
 replace hA := hA.s3 4 3 2
 refine wp_seq_k fun K2 hK2 => ?_
 refine wp_region_lit ?_
 refine sl hA (lo_bs (f := B8) (e := 5) ([3#8]) hH rfl rfl (fun w => by kernel_rfl)) rfl ?_
 clear hH; rintro v_t6 w ⟨N_t6, hO_t6, hH⟩ a hA
 refine asg hA fun a hA => ?_
 refine wpList_nil ?_
 refine hK2 _ _ ?_
 clear hK2
 replace hA := hA.s4 5 4 3 2
 refine wp_seq_k fun K3 hK3 => ?_
 refine wp_region_lit ?_
 refine mv hA fun a hA => ?_
 refine sq hA (q_loadW hH 3 rfl Tryz.underlying25 rfl ti25 rfl (by first | omega | (simp; done) | (simp; omega) | (rw [List.length_map]; assumption) | assumption | rfl | (simp [*]; done) | (simp [*]; omega))) rfl fun a hA => ?_
 refine sl hA (lo_call fn60 rfl (refdigest_any p hp)) rfl ?_
 rintro _ w ⟨v_t9, N_t9, rfl, hO_t9, hC⟩ a hA
 replace hH := HS.call0 hH hC
 clear hC
 replace hH := hH.pick [1, 0, 2, 3, 4] (Hs' := [_, _, _, _, _]) rfl
 refine sl hA (lo_appm hH Tryz.underlying41 Tryz.underlying41 (.inl rfl) ti5 rfl rfl rfl hO_t6 (Rd.src (Own.rd0 hO_t9 hH 1 rfl)) (one_B8 _) (by simp [hp]) (by simp [hp])) rfl ?_
 clear hH; rintro v_t10 w ⟨N_t10, hO_t10, hH⟩ a hA
 refine asg hA fun a hA => ?_
 refine wpList_nil ?_
 refine hK3 _ _ ?_
 clear hK3
 replace hA := hA.s3 5 4 3
 refine wp_seq_k fun K4 hK4 => ?_
 refine wp_region_lit ?_
 refine mv hA fun a hA => ?_
 refine sq hA (q_loadW hH 3 rfl Tryz.underlying25 rfl ti25 rfl (by first | omega | (simp; done) | (simp; omega) | (rw [List.length_map]; assumption) | assumption | rfl | (simp [*]; done) | (simp [*]; omega))) rfl fun a hA => ?_
 refine sl hA (lo_call fn60 rfl (refdigest_any q hq)) rfl ?_
 rintro _ w ⟨v_t13, N_t13, rfl, hO_t13, hC⟩ a hA
 replace hH := HS.call0 hH hC
 clear hC
 replace hH := hH.pick [1, 0, 2, 3, 4, 5] (Hs' := [_, _, _, _, _, _]) rfl
 refine sl hA (lo_appm hH Tryz.underlying41 Tryz.underlying41 (.inl rfl) ti5 rfl rfl rfl hO_t10 (Rd.src (Own.rd0 hO_t13 hH 1 rfl)) (one_B8 _) (by simp [hp, hq]) (by simp [hp, hq])) rfl ?_
 clear hH; rintro v_t14 w ⟨N_t14, hO_t14, hH⟩ a hA
 refine asg hA fun a hA => ?_
 refine wpList_nil ?_
 refine hK4 _ _ ?_
 clear hK4
 replace hA := hA.s2 5 4
 refine wp_seq_k fun K5 hK5 => ?_
 refine wp_region_lit ?_
 refine mv hA fun a hA => ?_
 refine sl hA (lo_call fn76 rfl (refsum_any (hg.mono0 hH) _ (([3#8] ++ p) ++ q) (Own.rd0 hO_t14 hH 0 rfl) (by simp [hp, hq]))) rfl ?_
 rintro _ w ⟨rfl, hC⟩ a hA
 replace hH := HS.call0 hH hC
 clear hC
 replace hH := hH.pick [3, 0, 1, 2, 4, 5] (Hs' := [_, _, _, _, _, _]) rfl
 refine s0 hA (lo_storeAm hH ti25 rfl rfl (by first | rfl | (simp; done)) (by first | rfl | (simp; done)) (one_B8 _)) ?_
 clear hH; rintro _ w hH
 refine wpList_nil ?_
 refine hK5 _ _ ?_
 clear hK5
 replace hA := hA.s1 4
 refine wp_ret ?_
 refine post_ret hA (res_c rfl hA rfl (resW hH 0 rfl Tryz.underlying25 rfl ti25 (by first | assumption | (rw [List.length_map]; assumption) | rfl | exact sha_length _ | (simp; done) | (simp [*]; done) | omega))) ?_
 replace hH := hH.pick [] (Hs' := []) rfl
 exact ⟨_, rfl, rfl, hH⟩

end Go.Proofs.YtnnkgdijaekcfaaGreatDoor
