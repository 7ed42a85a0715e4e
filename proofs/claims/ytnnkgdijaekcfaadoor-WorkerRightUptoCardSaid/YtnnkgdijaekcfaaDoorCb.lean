/- Layer 6 (tree): climbing. -/
import Derived.Test.YtnnkgdijaekcfaaDoorCa
namespace Go.Proofs.YtnnkgdijaekcfaaDoor
open Go
set_option linter.unusedVariables false
set_option linter.unusedSimpArgs false
set_option maxRecDepth 100000

theorem climb_bad {w0 : World} (p : Bs) (i : Int) (v : Value) (ds : List Bs) (hp : p.length = 32) (hd : Dg ds) (hr : RdD [] w0 v ds) (hbad : 10 < ds.length ∨ i < 0 ∨ (2 : Int) ^ ds.length ≤ i) :
    Calls Tryd.prog 103 #[(.agg ((p).map B8).toArray), I i, v] w0 (Ret fun r w' => r = .tuple #[.agg (((List.replicate 32 0#8)).map B8).toArray, I 1] ∧ HS [] w0 w' []) := by
 have hH := HS.start w0
 refine start (n := 45) (E := [(0, _), (1, _), (2, _)]) Tryd.func103 rfl rfl rfl (args_look rfl) ?_
 intro a hA
 refine wp_seq_k fun K1 hK1 => ?_
 refine wp_region_lit ?_
 refine sl hA (lo_boxA hH rfl) rfl ?_
 clear hH; rintro _ w ⟨b_t3, rfl, hH⟩ a hA
 refine sl hA (lo_allocA hH ti24) rfl ?_
 clear hH; rintro _ w ⟨b_t6, rfl, hH⟩ a hA
 refine asg hA fun a hA => ?_
 refine wpList_nil ?_
 refine hK1 _ _ ?_
 clear hK1
 replace hA := hA.s5 7 6 3 1 2
 refine wp_seq_k fun K2 hK2 => ?_
 refine wp_seq_k fun K3 hK3 => ?_
 refine wp_region_lit ?_
 refine mv hA fun a hA => ?_
 refine sq hA (q_len Tryd.underlying25 rfl (Rd.shp hr)) rfl fun a hA => ?_
 rcases Classical.em (10 < ds.length) with hs12 | hs12
 ·skip
  refine sq hA (Runs.bt (q_gtrI (n := 10) rfl rfl) (by omega)) rfl fun a hA => ?_
  refine mv hA fun a hA => ?_
  refine gs hA rfl rfl rfl rfl fun a hA => ?_
  refine gs hA rfl rfl rfl rfl fun a hA => ?_
  refine sq hA (q_pick_t rfl rfl) rfl fun a hA => ?_
  refine mv hA fun a hA => ?_
  refine gs hA rfl rfl rfl rfl fun a hA => ?_
  refine gs hA rfl rfl rfl rfl fun a hA => ?_
  refine gs hA rfl rfl rfl rfl fun a hA => ?_
  refine gs hA rfl rfl rfl rfl fun a hA => ?_
  refine gs hA rfl rfl rfl rfl fun a hA => ?_
  refine sq hA (q_pick_t rfl rfl) rfl fun a hA => ?_
  refine wpList_nil ?_
  refine hK3 _ _ ?_
  clear hK3
  replace hA := hA.s6 23 7 6 3 1 2
  refine cond_t hA rfl ?_
  refine wp_seq_k fun K4 hK4 => ?_
  refine wp_region_lit ?_
  refine sq hA (q_build (v := (.agg ((List.replicate 32 0#8).map B8).toArray)) (vs := []) rfl (fun w => by kernel_rfl)) rfl fun a hA => ?_
  refine s0 hA (lo_storeAm hH ti24 rfl rfl (by first | rfl | (simp; done) | (simp [clm_length hp]; done) | (rw [clm_length hp]; done) | (simp [hd.getD, *]; done)) (by first | rfl | (simp; done) | (simp [clm_length hp]; done) | (rw [clm_length hp]; done) | (simp [hd.getD, *]; done)) (one_B8 _)) ?_
  clear hH; rintro _ w hH
  refine asg hA fun a hA => ?_
  refine wpList_nil ?_
  refine hK4 _ _ ?_
  clear hK4
  replace hA := hA.s5 7 6 3 1 2
  refine wp_ret ?_
  refine then_ret ?_
  refine post_ret hA (res_c1 rfl hA rfl rfl (resW hH 0 rfl Tryd.underlying24 rfl ti24 (by first | assumption | (rw [List.length_map]; assumption) | rfl | exact sha_length _ | (simp; done) | (simp [*]; done) | omega))) ?_
  replace hH := hH.pick [] (Hs' := []) rfl
  exact ⟨_, rfl, rfl, hH⟩
 ·skip
  refine sq hA (Runs.bf (q_gtrI (n := 10) rfl rfl) (by omega)) rfl fun a hA => ?_
  refine mv hA fun a hA => ?_
  refine gq hA rfl rfl (q_move rfl) rfl fun a hA => ?_
  rcases Classical.em (i < 0) with hs15 | hs15
  ·skip
   refine gq hA rfl rfl (Runs.bt (q_lssI (n := 0) rfl rfl) (by omega)) rfl fun a hA => ?_
   refine sq hA (q_pick_f rfl rfl) rfl fun a hA => ?_
   refine mv hA fun a hA => ?_
   refine gs hA rfl rfl rfl rfl fun a hA => ?_
   refine gs hA rfl rfl rfl rfl fun a hA => ?_
   refine gs hA rfl rfl rfl rfl fun a hA => ?_
   refine gs hA rfl rfl rfl rfl fun a hA => ?_
   refine gs hA rfl rfl rfl rfl fun a hA => ?_
   refine sq hA (q_pick_t rfl rfl) rfl fun a hA => ?_
   refine wpList_nil ?_
   refine hK3 _ _ ?_
   clear hK3
   replace hA := hA.s6 23 7 6 3 1 2
   refine cond_t hA rfl ?_
   refine wp_seq_k fun K5 hK5 => ?_
   refine wp_region_lit ?_
   refine sq hA (q_build (v := (.agg ((List.replicate 32 0#8).map B8).toArray)) (vs := []) rfl (fun w => by kernel_rfl)) rfl fun a hA => ?_
   refine s0 hA (lo_storeAm hH ti24 rfl rfl (by first | rfl | (simp; done) | (simp [clm_length hp]; done) | (rw [clm_length hp]; done) | (simp [hd.getD, *]; done)) (by first | rfl | (simp; done) | (simp [clm_length hp]; done) | (rw [clm_length hp]; done) | (simp [hd.getD, *]; done)) (one_B8 _)) ?_
   clear hH; rintro _ w hH
   refine asg hA fun a hA => ?_
   refine wpList_nil ?_
   refine hK5 _ _ ?_
   clear hK5
   replace hA := hA.s5 7 6 3 1 2
   refine wp_ret ?_
   refine then_ret ?_
   refine post_ret hA (res_c1 rfl hA rfl rfl (resW hH 0 rfl Tryd.underlying24 rfl ti24 (by first | assumption | (rw [List.length_map]; assumption) | rfl | exact sha_length _ | (simp; done) | (simp [*]; done) | omega))) ?_
   replace hH := hH.pick [] (Hs' := []) rfl
   exact ⟨_, rfl, rfl, hH⟩
  ·skip
   refine gq hA rfl rfl (Runs.bf (q_lssI (n := 0) rfl rfl) (by omega)) rfl fun a hA => ?_
   refine sq hA (q_pick_f rfl rfl) rfl fun a hA => ?_
   refine mv hA fun a hA => ?_
   refine gq hA rfl rfl (q_move rfl) rfl fun a hA => ?_
   refine gq hA rfl rfl (q_move rfl) rfl fun a hA => ?_
   refine gq hA rfl rfl (q_len Tryd.underlying25 rfl (Rd.shp hr)) rfl fun a hA => ?_
   refine gq hA rfl rfl (q_shrI (n := ds.length) (2 ^ ds.length) rfl rfl (by omega) rfl (by omega)) rfl fun a hA => ?_
   refine gq hA rfl rfl (Runs.bt (q_neqI (n := 0) rfl rfl) (by exact ishr_pos (by omega))) rfl fun a hA => ?_
   refine sq hA (q_pick_f rfl rfl) rfl fun a hA => ?_
   refine wpList_nil ?_
   refine hK3 _ _ ?_
   clear hK3
   replace hA := hA.s6 23 7 6 3 1 2
   refine cond_t hA rfl ?_
   refine wp_seq_k fun K6 hK6 => ?_
   refine wp_region_lit ?_
   refine sq hA (q_build (v := (.agg ((List.replicate 32 0#8).map B8).toArray)) (vs := []) rfl (fun w => by kernel_rfl)) rfl fun a hA => ?_
   refine s0 hA (lo_storeAm hH ti24 rfl rfl (by first | rfl | (simp; done) | (simp [clm_length hp]; done) | (rw [clm_length hp]; done) | (simp [hd.getD, *]; done)) (by first | rfl | (simp; done) | (simp [clm_length hp]; done) | (rw [clm_length hp]; done) | (simp [hd.getD, *]; done)) (one_B8 _)) ?_
   clear hH; rintro _ w hH
   refine asg hA fun a hA => ?_
   refine wpList_nil ?_
   refine hK6 _ _ ?_
   clear hK6
   replace hA := hA.s5 7 6 3 1 2
   refine wp_ret ?_
   refine then_ret ?_
   refine post_ret hA (res_c1 rfl hA rfl rfl (resW hH 0 rfl Tryd.underlying24 rfl ti24 (by first | assumption | (rw [List.length_map]; assumption) | rfl | exact sha_length _ | (simp; done) | (simp [*]; done) | omega))) ?_
   replace hH := hH.pick [] (Hs' := []) rfl
   exact ⟨_, rfl, rfl, hH⟩

theorem climb_any {w0 : World} {lv : Nat} (hg : Gl lv w0) (p : Bs) (i : Nat) (v : Value) (ds : List Bs) (hp : p.length = 32) (hd : Dg ds) (hr : RdD [] w0 v ds) (hl : ds.length ≤ 10) (hi : i < 2 ^ ds.length) :
    Calls Tryd.prog 103 #[(.agg ((p).map B8).toArray), I i, v] w0 (Ret fun r w' => r = .tuple #[.agg ((clm p i ds ds.length).map B8).toArray, I 0] ∧ HS [] w0 w' []) := by
 have hH := HS.start w0
 refine start (n := 45) (E := [(0, _), (1, _), (2, _)]) Tryd.func103 rfl rfl rfl (args_look rfl) ?_
 intro a hA
 have hi2 : i < 1024 := Nat.lt_of_lt_of_le hi (Nat.pow_le_pow_right (by decide) hl)
 refine wp_seq_k fun K1 hK1 => ?_
 refine wp_region_lit ?_
 refine sl hA (lo_boxA hH rfl) rfl ?_
 clear hH; rintro _ w ⟨b_t3, rfl, hH⟩ a hA
 refine sl hA (lo_allocA hH ti24) rfl ?_
 clear hH; rintro _ w ⟨b_t6, rfl, hH⟩ a hA
 refine asg hA fun a hA => ?_
 refine wpList_nil ?_
 refine hK1 _ _ ?_
 clear hK1
 replace hA := hA.s5 7 6 3 1 2
 refine wp_seq_k fun K2 hK2 => ?_
 refine wp_seq_k fun K3 hK3 => ?_
 refine wp_region_lit ?_
 refine mv hA fun a hA => ?_
 refine sq hA (q_len Tryd.underlying25 rfl (Rd.shp hr)) rfl fun a hA => ?_
 refine sq hA (Runs.bf (q_gtrI (n := 10) rfl rfl) (by omega)) rfl fun a hA => ?_
 refine mv hA fun a hA => ?_
 refine gq hA rfl rfl (q_move rfl) rfl fun a hA => ?_
 refine gq hA rfl rfl (Runs.bf (q_lssI (n := 0) rfl rfl) (by omega)) rfl fun a hA => ?_
 refine sq hA (q_pick_f rfl rfl) rfl fun a hA => ?_
 refine mv hA fun a hA => ?_
 refine gq hA rfl rfl (q_move rfl) rfl fun a hA => ?_
 refine gq hA rfl rfl (q_move rfl) rfl fun a hA => ?_
 refine gq hA rfl rfl (q_len Tryd.underlying25 rfl (Rd.shp hr)) rfl fun a hA => ?_
 refine gq hA rfl rfl (q_shrI (n := ds.length) (2 ^ ds.length) rfl rfl (by omega) rfl (by omega)) rfl fun a hA => ?_
 refine gq hA rfl rfl (Runs.bf (q_neqI (n := 0) rfl rfl) (fun h => h (ishr_zero hi))) rfl fun a hA => ?_
 refine sq hA (q_pick_f rfl rfl) rfl fun a hA => ?_
 refine wpList_nil ?_
 refine hK3 _ _ ?_
 clear hK3
 replace hA := hA.s6 23 7 6 3 1 2
 refine cond_f hA rfl ?_
 refine wp_skip ?_
 refine hK2 _ _ ?_
 clear hK2
 replace hA := hA.s5 7 6 3 1 2
 refine wp_seq_k fun K4 hK4 => ?_
 refine wp_seq_k fun K5 hK5 => ?_
 refine wp_region_lit ?_
 refine mv hA fun a hA => ?_
 refine sq hA (q_len Tryd.underlying25 rfl (Rd.shp hr)) rfl fun a hA => ?_
 refine mv hA fun a hA => ?_
 refine wpList_nil ?_
 refine hK5 _ _ ?_
 clear hK5
 replace hA := hA.s7 27 26 25 7 6 3 1
 refine wp_block ?_
 replace hH := hH.pick [1, 0] (Hs' := [_, _]) rfl
 replace hH := HS.fold [_] [_] hH
 obtain ⟨NR6, hNR6, hH⟩ := hH
 refine wp_loop_ghost (fun gm a w => ∃ k : Nat, At 45 [(27, I k), (26, I ds.length), (25, v), (7, I 0), (6, (.pointer (some ⟨b_t6, 0, none⟩))), (3, (.pointer (some ⟨b_t3, 0, none⟩))), (1, I i)] a ∧ HS [] w0 w ([[(b_t3, Obj.cells ((clm p i ds k).map B8).toArray 24 (0, 0))], NR6]) ∧ (k ≤ ds.length) ∧ gm = ds.length - k) (ds.length - (0)) ⟨0, hA.sub ⟨rfl, rfl, rfl, rfl, rfl, rfl, rfl, trivial⟩, hH, by omega, rfl⟩ ?_
 clear hA hH
 rintro gm a w ⟨k, hA, hH, hk, rfl⟩
 have hck0 := clm_length hp i ds k
 refine wp_seq_k fun K7 hK7 => ?_
 refine wp_region_lit ?_
 refine sq hA (q_lssI rfl rfl) rfl fun a hA => ?_
 refine wpList_nil ?_
 refine hK7 _ _ ?_
 clear hK7
 refine wp_seq_k fun K8 hK8 => ?_
 refine cond_d hA rfl (fun hc28 => ?_) (fun hc28 => ?_)
 ·skip
  refine wp_skip ?_
  refine hK8 _ _ ?_
  clear hK8
  refine wp_seq_k fun K9 hK9 => ?_
  refine wp_block ?_
  refine wp_seq_k fun K10 hK10 => ?_
  refine wp_region_lit ?_
  refine mv hA fun a hA => ?_
  refine sq hA (q_idxk (k) Tryd.underlying25 ti24 rfl rfl (by first | omega | rfl) (Rd.shp hr) (by first | omega | (simp; done) | (simp; omega) | (rw [List.length_map]; assumption) | assumption | rfl | (simp [*]; done) | (simp [*]; omega))) rfl fun a hA => ?_
  have hdk : (ds.getD k []).length = 32 := hd.getD (by omega)
  refine sq hA (q_loadRA Tryd.underlying24 rfl ti24 rfl (hH.rd hr) (by omega) _ (dc_at hd (by omega))) rfl fun a hA => ?_
  refine sl hA (lo_allocA hH ti24) rfl ?_
  clear hH; rintro _ w ⟨b_t9, rfl, hH⟩ a hA
  refine asg hA fun a hA => ?_
  refine s0 hA (lo_storeAm hH ti24 rfl rfl (by first | rfl | (simp; done) | (rw [List.length_map]; exact hdk) | exact hdk) (by first | rfl | (simp; done) | (rw [List.length_map]; exact hdk) | exact hdk) (one_B8 _)) ?_
  clear hH; rintro _ w hH
  refine wpList_nil ?_
  refine hK10 _ _ ?_
  clear hK10
  refine wp_seq_k fun K11 hK11 => ?_
  refine wp_region_lit ?_
  refine mv hA fun a hA => ?_
  refine mv hA fun a hA => ?_
  refine sq hA (q_shrI (n := k) (2 ^ k) rfl rfl (by omega) rfl (by omega)) rfl fun a hA => ?_
  rw [ishr_cast] at hA
  refine sq hA (q_andI (b := 1) rfl rfl (by first | omega | exact Nat.lt_of_le_of_lt (Nat.div_le_self _ _) (by omega)) (by first | omega | exact Nat.lt_of_le_of_lt (Nat.div_le_self _ _) (by omega))) rfl fun a hA => ?_
  rw [and1] at hA
  refine sq hA (q_eqlI (n := 0) rfl rfl) rfl fun a hA => ?_
  refine wpList_nil ?_
  refine hK11 _ _ ?_
  clear hK11
  refine cond_d hA rfl (fun hc36 => ?_) (fun hc36 => ?_)
  ·skip
   have hck := clm_e p i ds (k := k) (by omega)
   refine wp_region_lit ?_
   refine sq hA (q_loadW hH 1 rfl Tryd.underlying24 rfl ti24 rfl (by rw [List.length_map]; exact hck0)) rfl fun a hA => ?_
   refine sq hA (q_loadW hH 0 rfl Tryd.underlying24 rfl ti24 rfl (by rw [List.length_map]; exact hdk)) rfl fun a hA => ?_
   refine sl hA (lo_call fn130 rfl (above_any (hg.mono0 hH) (clm p i ds k) (ds.getD k []) (hck0) (hdk))) rfl ?_
   rintro _ w ⟨rfl, hC⟩ a hA
   replace hH := HS.call0 hH hC
   clear hC
   replace hH := hH.pick [1, 0, 2] (Hs' := [_, _, _]) rfl
   refine s0 hA (lo_storeAm hH ti24 rfl rfl (by first | rfl | (simp; done) | (rw [List.length_map]; exact hck0) | exact hck0) (by first | rfl | (simp; done) | (rw [List.length_map]; exact hck0) | exact hck0) (one_B8 _)) ?_
   clear hH; rintro _ w hH
   refine wpList_nil ?_
   refine block_normal ?_
   refine hK9 _ _ ?_
   clear hK9
   refine wp_region_lit ?_
   refine sq hA (q_addI (n := 1) rfl rfl (by omega)) rfl fun a hA => ?_
   refine mv hA fun a hA => ?_
   refine wpList_nil ?_
   replace hH := hH.pick [0, 2, 1] (Hs' := [_, _, _]) rfl
   replace hH := hH.pick [0, 1] (Hs' := [_, _]) rfl
   exact ⟨_, by omega, k + 1, hA.sub ⟨rfl, rfl, rfl, rfl, rfl, rfl, rfl, trivial⟩, (by rw [← hck] at hH; exact hH), by omega, rfl⟩
  ·skip
   have hck := clm_o p i ds (k := k) (by omega)
   refine wp_region_lit ?_
   refine sq hA (q_loadW hH 0 rfl Tryd.underlying24 rfl ti24 rfl (by rw [List.length_map]; exact hdk)) rfl fun a hA => ?_
   refine sq hA (q_loadW hH 1 rfl Tryd.underlying24 rfl ti24 rfl (by rw [List.length_map]; exact hck0)) rfl fun a hA => ?_
   refine sl hA (lo_call fn130 rfl (above_any (hg.mono0 hH) (ds.getD k []) (clm p i ds k) (hdk) (hck0))) rfl ?_
   rintro _ w ⟨rfl, hC⟩ a hA
   replace hH := HS.call0 hH hC
   clear hC
   replace hH := hH.pick [1, 0, 2] (Hs' := [_, _, _]) rfl
   refine s0 hA (lo_storeAm hH ti24 rfl rfl (by first | rfl | (simp; done) | (rw [List.length_map]; exact hck0) | exact hck0) (by first | rfl | (simp; done) | (rw [List.length_map]; exact hck0) | exact hck0) (one_B8 _)) ?_
   clear hH; rintro _ w hH
   refine wpList_nil ?_
   refine block_normal ?_
   refine hK9 _ _ ?_
   clear hK9
   refine wp_region_lit ?_
   refine sq hA (q_addI (n := 1) rfl rfl (by omega)) rfl fun a hA => ?_
   refine mv hA fun a hA => ?_
   refine wpList_nil ?_
   replace hH := hH.pick [0, 2, 1] (Hs' := [_, _, _]) rfl
   replace hH := hH.pick [0, 1] (Hs' := [_, _]) rfl
   exact ⟨_, by omega, k + 1, hA.sub ⟨rfl, rfl, rfl, rfl, rfl, rfl, rfl, trivial⟩, (by rw [← hck] at hH; exact hH), by omega, rfl⟩
 ·skip
  obtain rfl : k = ds.length := by omega
  refine wp_exit ?_
  refine then_exit ?_
  replace hH := HS.unfold [_] hNR6 hH
  refine then_exit ?_
  refine exit_here ?_
  refine hK4 _ _ ?_
  clear hK4
  replace hA := hA.s3 7 6 3
  refine wp_seq_k fun K12 hK12 => ?_
  refine wp_region_lit ?_
  refine sq hA (q_loadW hH 0 rfl Tryd.underlying24 rfl ti24 rfl (by first | omega | (simp; done) | (simp; omega) | (rw [List.length_map]; assumption) | assumption | rfl | (simp [*]; done) | (simp [*]; omega))) rfl fun a hA => ?_
  replace hH := hH.pick [1, 0] (Hs' := [_, _]) rfl
  refine s0 hA (lo_storeAm hH ti24 rfl rfl (by first | rfl | (simp; done) | (simp [clm_length hp]; done) | (rw [clm_length hp]; done) | (simp [hd.getD, *]; done)) (by first | rfl | (simp; done) | (simp [clm_length hp]; done) | (rw [clm_length hp]; done) | (simp [hd.getD, *]; done)) (one_B8 _)) ?_
  clear hH; rintro _ w hH
  refine asg hA fun a hA => ?_
  refine wpList_nil ?_
  refine hK12 _ _ ?_
  clear hK12
  replace hA := hA.s2 7 6
  refine wp_ret ?_
  refine post_ret hA (res_c1 rfl hA rfl rfl (resW hH 0 rfl Tryd.underlying24 rfl ti24 (by first | assumption | (rw [List.length_map]; assumption) | rfl | exact sha_length _ | (simp; done) | (simp [*]; done) | omega))) ?_
  replace hH := hH.pick [] (Hs' := []) rfl
  exact ⟨_, rfl, rfl, hH⟩

end Go.Proofs.YtnnkgdijaekcfaaDoor
