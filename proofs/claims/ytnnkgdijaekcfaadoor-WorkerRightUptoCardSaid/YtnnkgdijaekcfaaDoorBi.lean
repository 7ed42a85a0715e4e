/- Layer 3 (mac). -/
import Derived.Test.YtnnkgdijaekcfaaDoorLl
import Derived.Test.YtnnkgdijaekcfaaDoorTa
import Derived.Test.YtnnkgdijaekcfaaDoorTb
import Derived.Test.YtnnkgdijaekcfaaDoorMza
import Derived.Test.YtnnkgdijaekcfaaDoorBa
import Derived.Test.YtnnkgdijaekcfaaDoorBb
import Derived.Test.YtnnkgdijaekcfaaDoorBc
import Derived.Test.YtnnkgdijaekcfaaDoorBd
namespace Go.Proofs.YtnnkgdijaekcfaaDoor
open Go
set_option linter.unusedVariables false
set_option linter.unusedSimpArgs false
set_option maxRecDepth 100000

theorem keyed_any {w0 : World} {lv : Nat} (hg : Gl lv w0) (v : Value) (l : Bs) (hr : By [] w0 v l) (hl : l.length ≤ 1048576) :
    Calls Tryd.prog 119 #[v] w0 (Ret fun r w' => r = .agg ((kk l).map B8).toArray ∧ HS [] w0 w' []) := by
 have hH := HS.start w0
 refine start (n := 15) (E := [(0, _)]) Tryd.func119 rfl rfl rfl (args_look rfl) ?_
 intro a hA
 have hkk := kk_length l
 refine wp_seq_k fun K1 hK1 => ?_
 refine wp_region_lit ?_
 refine sl hA (lo_allocA hH ti173) rfl ?_
 clear hH; rintro _ w ⟨b_t2, rfl, hH⟩ a hA
 refine wpList_nil ?_
 refine hK1 _ _ ?_
 clear hK1
 refine wp_seq_k fun K2 hK2 => ?_
 refine wp_region_lit ?_
 refine sl hA (lo_allocA hH ti173) rfl ?_
 clear hH; rintro _ w ⟨b_t3, rfl, hH⟩ a hA
 refine wpList_nil ?_
 refine hK2 _ _ ?_
 clear hK2
 refine wp_seq_k fun K3 hK3 => ?_
 refine wp_seq_k fun K4 hK4 => ?_
 refine wp_region_lit ?_
 refine mv hA fun a hA => ?_
 refine sq hA (q_len Tryd.underlying22 rfl (Rd.shp hr)) rfl fun a hA => ?_
 refine sq hA (q_gtrI (n := 64) rfl rfl) rfl fun a hA => ?_
 refine wpList_nil ?_
 refine hK4 _ _ ?_
 clear hK4
 replace hA := hA.s4 7 3 2 0
 refine cond_d hA rfl (fun hc7 => ?_) (fun hc7 => ?_)
 ·skip
  refine wp_seq_k fun K5 hK5 => ?_
  refine wp_region_lit ?_
  refine mv hA fun a hA => ?_
  refine sl hA (lo_call fn129 rfl (sum_any (hg.mono0 hH) _ (l) (hH.rd hr) (by omega))) rfl ?_
  rintro _ w ⟨rfl, hC⟩ a hA
  replace hH := HS.call0 hH hC
  clear hC
  refine sl hA (lo_allocA hH ti24) rfl ?_
  clear hH; rintro _ w ⟨b_t4, rfl, hH⟩ a hA
  refine s0 hA (lo_storeAm hH ti24 rfl rfl (by first | rfl | (simp; done)) (by first | rfl | (simp; done)) (one_B8 _)) ?_
  clear hH; rintro _ w hH
  refine wpList_nil ?_
  refine hK5 _ _ ?_
  clear hK5
  replace hA := hA.s4 4 3 2 0
  refine wp_region_lit ?_
  refine sq hA (q_sliceAll Tryd.underlying24 ti5 rfl) rfl fun a hA => ?_
  refine asg hA fun a hA => ?_
  refine wpList_nil ?_
  refine hK3 _ _ ?_
  clear hK3
  replace hA := hA.s3 0 3 2
  refine wp_seq_k fun K6 hK6 => ?_
  refine wp_region_lit ?_
  refine sq hA (q_sliceAll Tryd.underlying173 ti5 rfl) rfl fun a hA => ?_
  refine mv hA fun a hA => ?_
  replace hH := hH.pick [1, 0, 2] (Hs' := [_, _, _]) rfl
  refine sl hA (lo_copyA (d := .invalid) hH Tryd.underlying22 ti5 rfl rfl (hH.rdB (T := _) 1 rfl (by first | (simp; done) | simp [*] | omega)) (by first | (simp; done) | (simp; omega) | (simp [*]; omega)) (soft0 _) (one_B8 _)) rfl ?_
  clear hH; rintro _ w ⟨rfl, hH⟩ a hA
  have hc7' : (64 < l.length) = (64 < l.length) := rfl
  first | rw [show putAt _ 0 _ = (kk l).map B8 from kk_copyB l (by omega)] at hH | rw [show putAt _ 0 _ = (kk l).map B8 from kk_copyS l (by omega)] at hH
  refine wpList_nil ?_
  refine hK6 _ _ ?_
  clear hK6
  replace hA := hA.s2 3 2
  refine wp_seq_k fun K7 hK7 => ?_
  refine wp_region_lit ?_
  refine sq hA (q_loadW hH 0 rfl Tryd.underlying173 rfl ti173 rfl (by first | omega | (simp; done) | (simp; omega) | (rw [List.length_map]; assumption) | assumption | rfl | (simp [*]; done) | (simp [*]; omega))) rfl fun a hA => ?_
  replace hH := hH.pick [2, 0, 1] (Hs' := [_, _, _]) rfl
  refine s0 hA (lo_storeAm hH ti173 rfl rfl (by first | rfl | (simp; done) | (simp [hkk]; done)) (by first | rfl | (simp; done) | (simp [hkk]; done)) (one_B8 _)) ?_
  clear hH; rintro _ w hH
  refine wpList_nil ?_
  refine hK7 _ _ ?_
  clear hK7
  replace hA := hA.s1 2
  refine wp_ret ?_
  refine post_ret hA (res_c rfl hA rfl (resW hH 0 rfl Tryd.underlying173 rfl ti173 (by first | assumption | (rw [List.length_map]; assumption) | rfl | exact sha_length _ | (simp; done) | (simp [*]; done) | omega))) ?_
  replace hH := hH.pick [] (Hs' := []) rfl
  exact ⟨_, rfl, rfl, hH⟩
 ·skip
  refine wp_skip ?_
  refine hK3 _ _ ?_
  clear hK3
  replace hA := hA.s3 3 2 0
  refine wp_seq_k fun K8 hK8 => ?_
  refine wp_region_lit ?_
  refine sq hA (q_sliceAll Tryd.underlying173 ti5 rfl) rfl fun a hA => ?_
  refine mv hA fun a hA => ?_
  refine sl hA (lo_copyA (d := .invalid) hH Tryd.underlying22 ti5 rfl rfl (hH.rd hr) (by first | (simp; done) | (simp; omega) | (simp [*]; omega)) (soft0 _) (one_B8 _)) rfl ?_
  clear hH; rintro _ w ⟨rfl, hH⟩ a hA
  have hc7' : (64 < l.length) = (64 < l.length) := rfl
  first | rw [show putAt _ 0 _ = (kk l).map B8 from kk_copyB l (by omega)] at hH | rw [show putAt _ 0 _ = (kk l).map B8 from kk_copyS l (by omega)] at hH
  refine wpList_nil ?_
  refine hK8 _ _ ?_
  clear hK8
  replace hA := hA.s2 3 2
  refine wp_seq_k fun K9 hK9 => ?_
  refine wp_region_lit ?_
  refine sq hA (q_loadW hH 0 rfl Tryd.underlying173 rfl ti173 rfl (by first | omega | (simp; done) | (simp; omega) | (rw [List.length_map]; assumption) | assumption | rfl | (simp [*]; done) | (simp [*]; omega))) rfl fun a hA => ?_
  replace hH := hH.pick [1, 0] (Hs' := [_, _]) rfl
  refine s0 hA (lo_storeAm hH ti173 rfl rfl (by first | rfl | (simp; done) | (simp [hkk]; done)) (by first | rfl | (simp; done) | (simp [hkk]; done)) (one_B8 _)) ?_
  clear hH; rintro _ w hH
  refine wpList_nil ?_
  refine hK9 _ _ ?_
  clear hK9
  replace hA := hA.s1 2
  refine wp_ret ?_
  refine post_ret hA (res_c rfl hA rfl (resW hH 0 rfl Tryd.underlying173 rfl ti173 (by first | assumption | (rw [List.length_map]; assumption) | rfl | exact sha_length _ | (simp; done) | (simp [*]; done) | omega))) ?_
  replace hH := hH.pick [] (Hs' := []) rfl
  exact ⟨_, rfl, rfl, hH⟩

theorem round_any {w0 : World} {lv : Nat} (hg : Gl lv w0) (b : Bs) (c : BitVec 8) (v : Value) (l : Bs) (hb : b.length = 64) (hr : By [] w0 v l) (hl : l.length ≤ 1048000) :
    Calls Tryd.prog 120 #[(.agg (b.map B8).toArray), (B8 c), v] w0 (Ret fun r w' => r = .agg ((rndB b c l).map B8).toArray ∧ HS [] w0 w' []) := by
 have hH := HS.start w0
 refine start (n := 28) (E := [(0, _), (1, _), (2, _)]) Tryd.func120 rfl rfl rfl (args_look rfl) ?_
 intro a hA
 refine wp_seq_k fun K1 hK1 => ?_
 refine wp_region_lit ?_
 refine sl hA (lo_boxA hH rfl) rfl ?_
 clear hH; rintro _ w ⟨b_t3, rfl, hH⟩ a hA
 refine sl hA (lo_allocA hH ti24) rfl ?_
 clear hH; rintro _ w ⟨b_t6, rfl, hH⟩ a hA
 refine wpList_nil ?_
 refine hK1 _ _ ?_
 clear hK1
 replace hA := hA.s4 6 3 1 2
 refine wp_seq_k fun K2 hK2 => ?_
 refine wp_region_lit ?_
 refine sl hA (lo_call fn90 rfl (new_any (hg.mono0 hH))) rfl ?_
 rintro _ w ⟨b_t9, N_t9, rfl, hO_t9, hC⟩ a hA
 replace hH := HS.call0 hH hC
 clear hC
 refine asg hA fun a hA => ?_
 refine wpList_nil ?_
 refine hK2 _ _ ?_
 clear hK2
 replace hA := hA.s5 7 6 3 1 2
 refine wp_seq_k fun K3 hK3 => ?_
 refine wp_seq_k fun K4 hK4 => ?_
 refine wp_region_lit ?_
 refine mv hA fun a hA => ?_
 refine wpList_nil ?_
 refine hK4 _ _ ?_
 clear hK4
 refine wp_block ?_
 replace hH := hH.pick [2, 0, 1] (Hs' := [_, _, _]) rfl
 replace hH := HS.fold [_] [_, _] hH
 obtain ⟨NR5, hNR5, hH⟩ := hH
 refine wp_loop_ghost (fun gm a w => ∃ i : Nat, At 28 [(10, I i), (7, (.pointer (some ⟨b_t9, 0, none⟩))), (6, (.pointer (some ⟨b_t6, 0, none⟩))), (3, (.pointer (some ⟨b_t3, 0, none⟩))), (1, (B8 c)), (2, v)] a ∧ HS [] w0 w ([[(b_t3, Obj.cells ((xorTo b c i).map B8).toArray 173 (0, 0))], NR5]) ∧ (i ≤ 64) ∧ gm = 64 - i) (64 - (0)) ⟨0, hA.sub ⟨rfl, rfl, rfl, rfl, rfl, rfl, trivial⟩, hH, by omega, rfl⟩ ?_
 clear hA hH
 rintro gm a w ⟨i, hA, hH, hi, rfl⟩
 refine wp_seq_k fun K6 hK6 => ?_
 refine wp_region_lit ?_
 refine sq hA (q_lssI (n := 64) rfl rfl) rfl fun a hA => ?_
 refine wpList_nil ?_
 refine hK6 _ _ ?_
 clear hK6
 refine wp_seq_k fun K7 hK7 => ?_
 refine cond_d hA rfl (fun hc11 => ?_) (fun hc11 => ?_)
 ·skip
  refine wp_skip ?_
  refine hK7 _ _ ?_
  clear hK7
  refine wp_seq_k fun K8 hK8 => ?_
  refine wp_block ?_
  refine wp_seq_k fun K9 hK9 => ?_
  refine wp_region_lit ?_
  refine mv hA fun a hA => ?_
  refine asg hA fun a hA => ?_
  refine wpList_nil ?_
  refine hK9 _ _ ?_
  clear hK9
  refine wp_region_lit ?_
  refine mv hA fun a hA => ?_
  refine sq hA (q_idxA1 (i) Tryd.underlying173 ti5 rfl rfl (by first | omega | rfl) (by first | omega | (simp; done) | (simp; omega) | (rw [List.length_map]; assumption) | assumption | rfl | (simp [*]; done) | (simp [*]; omega))) rfl fun a hA => ?_
  refine sq hA (q_loadBm (0#8) hH 0 rfl Tryd.underlying5 rfl rfl (by first | omega | (simp; done) | (simp; omega) | (rw [List.length_map]; assumption) | assumption | rfl | (simp [*]; done) | (simp [*]; omega))) rfl fun a hA => ?_
  refine mv hA fun a hA => ?_
  refine sq hA (q_xor8 rfl rfl) rfl fun a hA => ?_
  refine sq hA (q_idxA1 (i) Tryd.underlying173 ti5 rfl rfl (by first | omega | rfl) (by first | omega | (simp; done) | (simp; omega) | (rw [List.length_map]; assumption) | assumption | rfl | (simp [*]; done) | (simp [*]; omega))) rfl fun a hA => ?_
  refine s0 hA (lo_store1m hH ti5 rfl rfl (by simp; omega) rfl) ?_
  clear hH; rintro _ w hH
  refine wpList_nil ?_
  refine block_normal ?_
  refine hK8 _ _ ?_
  clear hK8
  refine wp_region_lit ?_
  refine sq hA (q_addI (n := 1) rfl rfl (by omega)) rfl fun a hA => ?_
  refine mv hA fun a hA => ?_
  refine wpList_nil ?_
  exact ⟨_, by omega, i + 1, hA.sub ⟨rfl, rfl, rfl, rfl, rfl, rfl, trivial⟩, (by rw [xorTo_set b c (by omega)] at hH; exact hH), by omega, rfl⟩
 ·skip
  obtain rfl : i = 64 := by omega
  rw [xorTo_end b c hb] at hH
  refine wp_exit ?_
  refine then_exit ?_
  replace hH := HS.unfold [_] hNR5 hH
  refine then_exit ?_
  refine exit_here ?_
  refine hK3 _ _ ?_
  clear hK3
  replace hA := hA.s4 7 6 3 2
  refine wp_seq_k fun K10 hK10 => ?_
  refine wp_region_lit ?_
  refine mv hA fun a hA => ?_
  refine sq hA (q_sliceAll Tryd.underlying173 ti5 rfl) rfl fun a hA => ?_
  replace hH := hH.pick [1, 0, 2] (Hs' := [_, _, _]) rfl
  refine sl hA (lo_call fn91 rfl (write_any (hg.mono hH NG.nil) (doms [N_t9]) (hg.ng NG.nil hH) b_t9 ([]) (xorB c b) _ N_t9 hO_t9 (HS.byBM (Ns1 := [_]) hH 0 rfl (by simp [hb])) (by first | (simp; done) | (simp; omega) | omega) (HS.handed (Ns1 := [_]) hH))) rfl ?_
  rintro _ w ⟨rfl, N_t9, hO_t9, hC⟩ a hA
  replace hH := HS.call (Ns1 := [_]) hH hC
  clear hC
  refine wpList_nil ?_
  refine hK10 _ _ ?_
  clear hK10
  replace hA := hA.s3 7 6 2
  refine wp_seq_k fun K11 hK11 => ?_
  refine wp_region_lit ?_
  refine mv hA fun a hA => ?_
  refine mv hA fun a hA => ?_
  refine sl hA (lo_call fn91 rfl (write_any (hg.mono hH NG.nil) (doms [N_t9]) (hg.ng NG.nil hH) b_t9 ([] ++ xorB c b) (l) _ N_t9 hO_t9 (hH.rdM (Ns1 := [_]) hr) (by first | (simp; done) | (simp; omega) | omega) (HS.handed (Ns1 := [_]) hH))) rfl ?_
  rintro _ w ⟨rfl, N_t9, hO_t9, hC⟩ a hA
  replace hH := HS.call (Ns1 := [_]) hH hC
  clear hC
  refine wpList_nil ?_
  refine hK11 _ _ ?_
  clear hK11
  replace hA := hA.s2 7 6
  refine wp_seq_k fun K12 hK12 => ?_
  refine wp_region_lit ?_
  refine mv hA fun a hA => ?_
  refine sl hA (lo_call fn92 rfl (hsum_any (hg.mono0 hH) b_t9 (([] ++ xorB c b) ++ l) N_t9 hO_t9 (RO.of hH 0 rfl) (by simp; omega))) rfl ?_
  rintro _ w ⟨rfl, hC⟩ a hA
  replace hH := HS.call0 hH hC
  clear hC
  replace hH := hH.pick [2, 0, 1] (Hs' := [_, _, _]) rfl
  refine s0 hA (lo_storeAm hH ti24 rfl rfl (by first | rfl | (simp; done)) (by first | rfl | (simp; done)) (one_B8 _)) ?_
  clear hH; rintro _ w hH
  refine wpList_nil ?_
  refine hK12 _ _ ?_
  clear hK12
  replace hA := hA.s1 6
  refine wp_ret ?_
  refine post_ret hA (res_c rfl hA rfl (resW hH 0 rfl Tryd.underlying24 rfl ti24 (by first | assumption | (rw [List.length_map]; assumption) | rfl | exact sha_length _ | (simp; done) | (simp [*]; done) | omega))) ?_
  replace hH := hH.pick [] (Hs' := []) rfl
  exact ⟨_, rfl, rfl, hH⟩

theorem mac_any {w0 : World} {lv : Nat} (hg : Gl lv w0) (u v : Value) (k l : Bs) (hu : By [] w0 u k) (hr : By [] w0 v l) (hk : k.length ≤ 1048576) (hl : l.length ≤ 1048000) :
    Calls Tryd.prog 82 #[u, v] w0 (Ret fun r w' => r = .agg ((macV k l).map B8).toArray ∧ HS [] w0 w' []) := by
 have hH := HS.start w0
 refine start (n := 16) (E := [(0, _), (1, _)]) Tryd.func82 rfl rfl rfl (args_look rfl) ?_
 intro a hA
 refine wp_seq_k fun K1 hK1 => ?_
 refine wp_region_lit ?_
 refine sl hA (lo_allocA hH ti24) rfl ?_
 clear hH; rintro _ w ⟨b_t4, rfl, hH⟩ a hA
 refine wpList_nil ?_
 refine hK1 _ _ ?_
 clear hK1
 refine wp_seq_k fun K2 hK2 => ?_
 refine wp_region_lit ?_
 refine mv hA fun a hA => ?_
 refine sl hA (lo_call fn119 rfl (keyed_any (hg.mono0 hH) _ k (hH.rd hu) hk)) rfl ?_
 rintro _ w ⟨rfl, hC⟩ a hA
 replace hH := HS.call0 hH hC
 clear hC
 refine sq hA (q_makeFunc rfl rfl) rfl fun a hA => ?_
 refine asg hA fun a hA => ?_
 refine wpList_nil ?_
 refine hK2 _ _ ?_
 clear hK2
 replace hA := hA.s3 5 4 1
 refine wp_seq_k fun K3 hK3 => ?_
 refine wp_region_lit ?_
 refine mv hA fun a hA => ?_
 refine mv hA fun a hA => ?_
 refine sl hA (lo_callv (first := _) (cap := _) fn120 rfl rfl (round_any (hg.mono0 hH) (kk k) 54#8 _ l (kk_length k) (hH.rd hr) hl)) rfl ?_
 rintro _ w ⟨rfl, hC⟩ a hA
 replace hH := HS.call0 hH hC
 clear hC
 refine sl hA (lo_allocA hH ti24) rfl ?_
 clear hH; rintro _ w ⟨b_t6, rfl, hH⟩ a hA
 refine s0 hA (lo_storeAm hH ti24 rfl rfl (by first | rfl | (simp; done)) (by first | rfl | (simp; done)) (one_B8 _)) ?_
 clear hH; rintro _ w hH
 refine wpList_nil ?_
 refine hK3 _ _ ?_
 clear hK3
 replace hA := hA.s3 6 5 4
 refine wp_seq_k fun K4 hK4 => ?_
 refine wp_region_lit ?_
 refine mv hA fun a hA => ?_
 refine sq hA (q_sliceAll Tryd.underlying24 ti5 rfl) rfl fun a hA => ?_
 refine sl hA (lo_callv (first := _) (cap := _) fn120 rfl rfl (round_any (hg.mono0 hH) (kk k) 92#8 _ (rndB (kk k) 54#8 l) (kk_length k) (HS.byB hH 0 rfl (by simp)) (by simp))) rfl ?_
 rintro _ w ⟨rfl, hC⟩ a hA
 replace hH := HS.call0 hH hC
 clear hC
 replace hH := hH.pick [1, 0] (Hs' := [_, _]) rfl
 refine s0 hA (lo_storeAm hH ti24 rfl rfl (by first | rfl | (simp; done)) (by first | rfl | (simp; done)) (one_B8 _)) ?_
 clear hH; rintro _ w hH
 refine wpList_nil ?_
 refine hK4 _ _ ?_
 clear hK4
 replace hA := hA.s1 4
 refine wp_ret ?_
 refine post_ret hA (res_c rfl hA rfl (resW hH 0 rfl Tryd.underlying24 rfl ti24 (by first | assumption | (rw [List.length_map]; assumption) | rfl | exact sha_length _ | (simp; done) | (simp [*]; done) | omega))) ?_
 replace hH := hH.pick [] (Hs' := []) rfl
 exact ⟨_, rfl, rfl, hH⟩

end Go.Proofs.YtnnkgdijaekcfaaDoor
