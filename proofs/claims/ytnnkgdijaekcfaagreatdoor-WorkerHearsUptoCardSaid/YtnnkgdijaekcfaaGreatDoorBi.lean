/- Layer 3 (mac). -/
import Derived.Test.YtnnkgdijaekcfaaGreatDoorLl
import Derived.Test.YtnnkgdijaekcfaaGreatDoorTa
import Derived.Test.YtnnkgdijaekcfaaGreatDoorTb
import Derived.Test.YtnnkgdijaekcfaaGreatDoorMza
import Derived.Test.YtnnkgdijaekcfaaGreatDoorBa
import Derived.Test.YtnnkgdijaekcfaaGreatDoorBb
import Derived.Test.YtnnkgdijaekcfaaGreatDoorBc
import Derived.Test.YtnnkgdijaekcfaaGreatDoorBd
namespace Go.Proofs.YtnnkgdijaekcfaaGreatDoor
open Go
set_option linter.unusedVariables false
set_option linter.unusedSimpArgs false
set_option maxRecDepth 100000

theorem keyed_any {w0 : World} {lv : Nat} (hg : Gl lv w0) (v : Value) (l : Bs) (hr : By [] w0 v l) (hl : l.length ≤ 1048576) :
    Calls Tryz.prog 84 #[v] w0 (Ret fun r w' => r = .agg ((kk l).map B8).toArray ∧ HS [] w0 w' []) := by
 have hH := HS.start w0
 refine start (n := 15) (E := [(0, _)]) Tryz.func84 rfl rfl rfl (args_look rfl) ?_
 intro a hA
 have hkk := kk_length l
 refine wp_seq_k fun K1 hK1 => ?_
 refine wp_region_lit ?_
 refine sl hA (lo_allocA hH ti142) rfl ?_
 clear hH; rintro _ w ⟨b_t2, rfl, hH⟩ a hA
 refine wpList_nil ?_
 refine hK1 _ _ ?_
 clear hK1
 refine wp_seq_k fun K2 hK2 => ?_
 refine wp_region_lit ?_
 refine sl hA (lo_allocA hH ti142) rfl ?_
 clear hH; rintro _ w ⟨b_t3, rfl, hH⟩ a hA
 refine wpList_nil ?_
 refine hK2 _ _ ?_
 clear hK2
 refine wp_seq_k fun K3 hK3 => ?_
 refine wp_seq_k fun K4 hK4 => ?_
 refine wp_region_lit ?_
 refine mv hA fun a hA => ?_
 refine sq hA (q_len Tryz.underlying41 rfl (Rd.shp hr)) rfl fun a hA => ?_
 refine sq hA (q_gtrI (n := 64) rfl rfl) rfl fun a hA => ?_
 refine wpList_nil ?_
 refine hK4 _ _ ?_
 clear hK4
 replace hA := hA.s4 7 3 2 0
 refine cond_d hA rfl (fun hc7 => ?_) (fun hc7 => ?_)
 ·skip
  refine wp_seq_k fun K5 hK5 => ?_
  refine wp_region_lit ?_
  refine mv hA fun a hA => ?_
  refine sl hA (lo_call fn113 rfl (sum_any (hg.mono0 hH) _ (l) (hH.rd hr) (by omega))) rfl ?_
  rintro _ w ⟨rfl, hC⟩ a hA
  replace hH := HS.call0 hH hC
  clear hC
  refine sl hA (lo_allocA hH ti25) rfl ?_
  clear hH; rintro _ w ⟨b_t4, rfl, hH⟩ a hA
  refine s0 hA (lo_storeAm hH ti25 rfl rfl (by first | rfl | (simp; done)) (by first | rfl | (simp; done)) (one_B8 _)) ?_
  clear hH; rintro _ w hH
  refine wpList_nil ?_
  refine hK5 _ _ ?_
  clear hK5
  replace hA := hA.s4 4 3 2 0
  refine wp_region_lit ?_
  refine sq hA (q_sliceAll Tryz.underlying25 ti5 rfl) rfl fun a hA => ?_
  refine asg hA fun a hA => ?_
  refine wpList_nil ?_
  refine hK3 _ _ ?_
  clear hK3
  replace hA := hA.s3 0 3 2
  refine wp_seq_k fun K6 hK6 => ?_
  refine wp_region_lit ?_
  refine sq hA (q_sliceAll Tryz.underlying142 ti5 rfl) rfl fun a hA => ?_
  refine mv hA fun a hA => ?_
  replace hH := hH.pick [1, 0, 2] (Hs' := [_, _, _]) rfl
  refine sl hA (lo_copyA (d := .invalid) hH Tryz.underlying41 ti5 rfl rfl (hH.rdB (T := _) 1 rfl (by first | (simp; done) | simp [*] | omega)) (by first | (simp; done) | (simp; omega) | (simp [*]; omega)) (soft0 _) (one_B8 _)) rfl ?_
  clear hH; rintro _ w ⟨rfl, hH⟩ a hA
  have hc7' : (64 < l.length) = (64 < l.length) := rfl
  first | rw [show putAt _ 0 _ = (kk l).map B8 from kk_copyB l (by omega)] at hH | rw [show putAt _ 0 _ = (kk l).map B8 from kk_copyS l (by omega)] at hH
  refine wpList_nil ?_
  refine hK6 _ _ ?_
  clear hK6
  replace hA := hA.s2 3 2
  refine wp_seq_k fun K7 hK7 => ?_
  refine wp_region_lit ?_
  refine sq hA (q_loadW hH 0 rfl Tryz.underlying142 rfl ti142 rfl (by first | omega | (simp; done) | (simp; omega) | (rw [List.length_map]; assumption) | assumption | rfl | (simp [*]; done) | (simp [*]; omega))) rfl fun a hA => ?_
  replace hH := hH.pick [2, 0, 1] (Hs' := [_, _, _]) rfl
  refine s0 hA (lo_storeAm hH ti142 rfl rfl (by first | rfl | (simp; done) | (simp [hkk]; done)) (by first | rfl | (simp; done) | (simp [hkk]; done)) (one_B8 _)) ?_
  clear hH; rintro _ w hH
  refine wpList_nil ?_
  refine hK7 _ _ ?_
  clear hK7
  replace hA := hA.s1 2
  refine wp_ret ?_
  refine post_ret hA (res_c rfl hA rfl (resW hH 0 rfl Tryz.underlying142 rfl ti142 (by first | assumption | (rw [List.length_map]; assumption) | rfl | exact sha_length _ | (simp; done) | (simp [*]; done) | omega))) ?_
  replace hH := hH.pick [] (Hs' := []) rfl
  exact ⟨_, rfl, rfl, hH⟩
 ·skip
  refine wp_skip ?_
  refine hK3 _ _ ?_
  clear hK3
  replace hA := hA.s3 3 2 0
  refine wp_seq_k fun K8 hK8 => ?_
  refine wp_region_lit ?_
  refine sq hA (q_sliceAll Tryz.underlying142 ti5 rfl) rfl fun a hA => ?_
  refine mv hA fun a hA => ?_
  refine sl hA (lo_copyA (d := .invalid) hH Tryz.underlying41 ti5 rfl rfl (hH.rd hr) (by first | (simp; done) | (simp; omega) | (simp [*]; omega)) (soft0 _) (one_B8 _)) rfl ?_
  clear hH; rintro _ w ⟨rfl, hH⟩ a hA
  have hc7' : (64 < l.length) = (64 < l.length) := rfl
  first | rw [show putAt _ 0 _ = (kk l).map B8 from kk_copyB l (by omega)] at hH | rw [show putAt _ 0 _ = (kk l).map B8 from kk_copyS l (by omega)] at hH
  refine wpList_nil ?_
  refine hK8 _ _ ?_
  clear hK8
  replace hA := hA.s2 3 2
  refine wp_seq_k fun K9 hK9 => ?_
  refine wp_region_lit ?_
  refine sq hA (q_loadW hH 0 rfl Tryz.underlying142 rfl ti142 rfl (by first | omega | (simp; done) | (simp; omega) | (rw [List.length_map]; assumption) | assumption | rfl | (simp [*]; done) | (simp [*]; omega))) rfl fun a hA => ?_
  replace hH := hH.pick [1, 0] (Hs' := [_, _]) rfl
  refine s0 hA (lo_storeAm hH ti142 rfl rfl (by first | rfl | (simp; done) | (simp [hkk]; done)) (by first | rfl | (simp; done) | (simp [hkk]; done)) (one_B8 _)) ?_
  clear hH; rintro _ w hH
  refine wpList_nil ?_
  refine hK9 _ _ ?_
  clear hK9
  replace hA := hA.s1 2
  refine wp_ret ?_
  refine post_ret hA (res_c rfl hA rfl (resW hH 0 rfl Tryz.underlying142 rfl ti142 (by first | assumption | (rw [List.length_map]; assumption) | rfl | exact sha_length _ | (simp; done) | (simp [*]; done) | omega))) ?_
  replace hH := hH.pick [] (Hs' := []) rfl
  exact ⟨_, rfl, rfl, hH⟩

theorem round_any {w0 : World} {lv : Nat} (hg : Gl lv w0) (b : Bs) (c : BitVec 8) (v : Value) (l : Bs) (hb : b.length = 64) (hr : By [] w0 v l) (hl : l.length ≤ 1048000) :
    Calls Tryz.prog 85 #[(.agg (b.map B8).toArray), (B8 c), v] w0 (Ret fun r w' => r = .agg ((rndB b c l).map B8).toArray ∧ HS [] w0 w' []) := by
 have hH := HS.start w0
 refine start (n := 28) (E := [(0, _), (1, _), (2, _)]) Tryz.func85 rfl rfl rfl (args_look rfl) ?_
 intro a hA
 refine wp_seq_k fun K1 hK1 => ?_
 refine wp_region_lit ?_
 refine sl hA (lo_boxA hH rfl) rfl ?_
 clear hH; rintro _ w ⟨b_t3, rfl, hH⟩ a hA
 refine sl hA (lo_allocA hH ti25) rfl ?_
 clear hH; rintro _ w ⟨b_t6, rfl, hH⟩ a hA
 refine wpList_nil ?_
 refine hK1 _ _ ?_
 clear hK1
 replace hA := hA.s4 6 3 1 2
 refine wp_seq_k fun K2 hK2 => ?_
 refine wp_region_lit ?_
 refine sl hA (lo_call fn43 rfl (new_any (hg.mono0 hH))) rfl ?_
 rintro _ w ⟨b_t9, N_t9, rfl, hO_t9, hC⟩ a hA
 replace hH := HS.call0 hH hC
 clear hC
 refine asg hA fun a hA => ?_
 refine wpList_nil ?_
 refine hK2 _ _ ?_
 clear hK2
 replace hA := hA.s5 7 6 3 1 2
 refine wp_seq_k fun K3 hK3 => ?_
 refine wp_seq_k fun K4 hK4 => ?_
 refine wp_region_lit ?_
 refine mv hA fun a hA => ?_
 refine wpList_nil ?_
 refine hK4 _ _ ?_
 clear hK4
 refine wp_block ?_
 replace hH := hH.pick [2, 0, 1] (Hs' := [_, _, _]) rfl
 replace hH := HS.fold [_] [_, _] hH
 obtain ⟨NR5, hNR5, hH⟩ := hH
 refine wp_loop_ghost (fun gm a w => ∃ i : Nat, At 28 [(10, I i), (7, (.pointer (some ⟨b_t9, 0, none⟩))), (6, (.pointer (some ⟨b_t6, 0, none⟩))), (3, (.pointer (some ⟨b_t3, 0, none⟩))), (1, (B8 c)), (2, v)] a ∧ HS [] w0 w ([[(b_t3, Obj.cells ((xorTo b c i).map B8).toArray 142 (0, 0))], NR5]) ∧ (i ≤ 64) ∧ gm = 64 - i) (64 - (0)) ⟨0, hA.sub ⟨rfl, rfl, rfl, rfl, rfl, rfl, trivial⟩, hH, by omega, rfl⟩ ?_
 clear hA hH
 rintro gm a w ⟨i, hA, hH, hi, rfl⟩
 refine wp_seq_k fun K6 hK6 => ?_
 refine wp_region_lit ?_
 refine sq hA (q_lssI (n := 64) rfl rfl) rfl fun a hA => ?_
 refine wpList_nil ?_
 refine hK6 _ _ ?_
 clear hK6
 refine wp_seq_k fun K7 hK7 => ?_
 refine cond_d hA rfl (fun hc11 => ?_) (fun hc11 => ?_)
 ·skip
  refine wp_skip ?_
  refine hK7 _ _ ?_
  clear hK7
  refine wp_seq_k fun K8 hK8 => ?_
  refine wp_block ?_
  refine wp_seq_k fun K9 hK9 => ?_
  refine wp_region_lit ?_
  refine mv hA fun a hA => ?_
  refine asg hA fun a hA => ?_
  refine wpList_nil ?_
  refine hK9 _ _ ?_
  clear hK9
  refine wp_region_lit ?_
  refine mv hA fun a hA => ?_
  refine sq hA (q_idxA1 (i) Tryz.underlying142 ti5 rfl rfl (by first | omega | rfl) (by first | omega | (simp; done) | (simp; omega) | (rw [List.length_map]; assumption) | assumption | rfl | (simp [*]; done) | (simp [*]; omega))) rfl fun a hA => ?_
  refine sq hA (q_loadBm (0#8) hH 0 rfl Tryz.underlying5 rfl rfl (by first | omega | (simp; done) | (simp; omega) | (rw [List.length_map]; assumption) | assumption | rfl | (simp [*]; done) | (simp [*]; omega))) rfl fun a hA => ?_
  refine mv hA fun a hA => ?_
  refine sq hA (q_xor8 rfl rfl) rfl fun a hA => ?_
  refine sq hA (q_idxA1 (i) Tryz.underlying142 ti5 rfl rfl (by first | omega | rfl) (by first | omega | (simp; done) | (simp; omega) | (rw [List.length_map]; assumption) | assumption | rfl | (simp [*]; done) | (simp [*]; omega))) rfl fun a hA => ?_
  refine s0 hA (lo_store1m hH ti5 rfl rfl (by simp; omega) rfl) ?_
  clear hH; rintro _ w hH
  refine wpList_nil ?_
  refine block_normal ?_
  refine hK8 _ _ ?_
  clear hK8
  refine wp_region_lit ?_
  refine sq hA (q_addI (n := 1) rfl rfl (by omega)) rfl fun a hA => ?_
  refine mv hA fun a hA => ?_
  refine wpList_nil ?_
  exact ⟨_, by omega, i + 1, hA.sub ⟨rfl, rfl, rfl, rfl, rfl, rfl, trivial⟩, (by rw [xorTo_set b c (by omega)] at hH; exact hH), by omega, rfl⟩
 ·skip
  obtain rfl : i = 64 := by omega
  rw [xorTo_end b c hb] at hH
  refine wp_exit ?_
  refine then_exit ?_
  replace hH := HS.unfold [_] hNR5 hH
  refine then_exit ?_
  refine exit_here ?_
  refine hK3 _ _ ?_
  clear hK3
  replace hA := hA.s4 7 6 3 2
  refine wp_seq_k fun K10 hK10 => ?_
  refine wp_region_lit ?_
  refine mv hA fun a hA => ?_
  refine sq hA (q_sliceAll Tryz.underlying142 ti5 rfl) rfl fun a hA => ?_
  replace hH := hH.pick [1, 0, 2] (Hs' := [_, _, _]) rfl
  refine sl hA (lo_call fn44 rfl (write_any (hg.mono hH NG.nil) (doms [N_t9]) (hg.ng NG.nil hH) b_t9 ([]) (xorB c b) _ N_t9 hO_t9 (HS.byBM (Ns1 := [_]) hH 0 rfl (by simp [hb])) (by first | (simp; done) | (simp; omega) | omega) (HS.handed (Ns1 := [_]) hH))) rfl ?_
  rintro _ w ⟨rfl, N_t9, hO_t9, hC⟩ a hA
  replace hH := HS.call (Ns1 := [_]) hH hC
  clear hC
  refine wpList_nil ?_
  refine hK10 _ _ ?_
  clear hK10
  replace hA := hA.s3 7 6 2
  refine wp_seq_k fun K11 hK11 => ?_
  refine wp_region_lit ?_
  refine mv hA fun a hA => ?_
  refine mv hA fun a hA => ?_
  refine sl hA (lo_call fn44 rfl (write_any (hg.mono hH NG.nil) (doms [N_t9]) (hg.ng NG.nil hH) b_t9 ([] ++ xorB c b) (l) _ N_t9 hO_t9 (hH.rdM (Ns1 := [_]) hr) (by first | (simp; done) | (simp; omega) | omega) (HS.handed (Ns1 := [_]) hH))) rfl ?_
  rintro _ w ⟨rfl, N_t9, hO_t9, hC⟩ a hA
  replace hH := HS.call (Ns1 := [_]) hH hC
  clear hC
  refine wpList_nil ?_
  refine hK11 _ _ ?_
  clear hK11
  replace hA := hA.s2 7 6
  refine wp_seq_k fun K12 hK12 => ?_
  refine wp_region_lit ?_
  refine mv hA fun a hA => ?_
  refine sl hA (lo_call fn45 rfl (hsum_any (hg.mono0 hH) b_t9 (([] ++ xorB c b) ++ l) N_t9 hO_t9 (RO.of hH 0 rfl) (by simp; omega))) rfl ?_
  rintro _ w ⟨rfl, hC⟩ a hA
  replace hH := HS.call0 hH hC
  clear hC
  replace hH := hH.pick [2, 0, 1] (Hs' := [_, _, _]) rfl
  refine s0 hA (lo_storeAm hH ti25 rfl rfl (by first | rfl | (simp; done)) (by first | rfl | (simp; done)) (one_B8 _)) ?_
  clear hH; rintro _ w hH
  refine wpList_nil ?_
  refine hK12 _ _ ?_
  clear hK12
  replace hA := hA.s1 6
  refine wp_ret ?_
  refine post_ret hA (res_c rfl hA rfl (resW hH 0 rfl Tryz.underlying25 rfl ti25 (by first | assumption | (rw [List.length_map]; assumption) | rfl | exact sha_length _ | (simp; done) | (simp [*]; done) | omega))) ?_
  replace hH := hH.pick [] (Hs' := []) rfl
  exact ⟨_, rfl, rfl, hH⟩

theorem mac_any {w0 : World} {lv : Nat} (hg : Gl lv w0) (u v : Value) (k l : Bs) (hu : By [] w0 u k) (hr : By [] w0 v l) (hk : k.length ≤ 1048576) (hl : l.length ≤ 1048000) :
    Calls Tryz.prog 42 #[u, v] w0 (Ret fun r w' => r = .agg ((macV k l).map B8).toArray ∧ HS [] w0 w' []) := by
 have hH := HS.start w0
 refine start (n := 16) (E := [(0, _), (1, _)]) Tryz.func42 rfl rfl rfl (args_look rfl) ?_
 intro a hA
 refine wp_seq_k fun K1 hK1 => ?_
 refine wp_region_lit ?_
 refine sl hA (lo_allocA hH ti25) rfl ?_
 clear hH; rintro _ w ⟨b_t4, rfl, hH⟩ a hA
 refine wpList_nil ?_
 refine hK1 _ _ ?_
 clear hK1
 refine wp_seq_k fun K2 hK2 => ?_
 refine wp_region_lit ?_
 refine mv hA fun a hA => ?_
 refine sl hA (lo_call fn84 rfl (keyed_any (hg.mono0 hH) _ k (hH.rd hu) hk)) rfl ?_
 rintro _ w ⟨rfl, hC⟩ a hA
 replace hH := HS.call0 hH hC
 clear hC
 refine sq hA (q_makeFunc rfl rfl) rfl fun a hA => ?_
 refine asg hA fun a hA => ?_
 refine wpList_nil ?_
 refine hK2 _ _ ?_
 clear hK2
 replace hA := hA.s3 5 4 1
 refine wp_seq_k fun K3 hK3 => ?_
 refine wp_region_lit ?_
 refine mv hA fun a hA => ?_
 refine mv hA fun a hA => ?_
 refine sl hA (lo_callv (first := _) (cap := _) fn85 rfl rfl (round_any (hg.mono0 hH) (kk k) 54#8 _ l (kk_length k) (hH.rd hr) hl)) rfl ?_
 rintro _ w ⟨rfl, hC⟩ a hA
 replace hH := HS.call0 hH hC
 clear hC
 refine sl hA (lo_allocA hH ti25) rfl ?_
 clear hH; rintro _ w ⟨b_t6, rfl, hH⟩ a hA
 refine s0 hA (lo_storeAm hH ti25 rfl rfl (by first | rfl | (simp; done)) (by first | rfl | (simp; done)) (one_B8 _)) ?_
 clear hH; rintro _ w hH
 refine wpList_nil ?_
 refine hK3 _ _ ?_
 clear hK3
 replace hA := hA.s3 6 5 4
 refine wp_seq_k fun K4 hK4 => ?_
 refine wp_region_lit ?_
 refine mv hA fun a hA => ?_
 refine sq hA (q_sliceAll Tryz.underlying25 ti5 rfl) rfl fun a hA => ?_
 refine sl hA (lo_callv (first := _) (cap := _) fn85 rfl rfl (round_any (hg.mono0 hH) (kk k) 92#8 _ (rndB (kk k) 54#8 l) (kk_length k) (HS.byB hH 0 rfl (by simp)) (by simp))) rfl ?_
 rintro _ w ⟨rfl, hC⟩ a hA
 replace hH := HS.call0 hH hC
 clear hC
 replace hH := hH.pick [1, 0] (Hs' := [_, _]) rfl
 refine s0 hA (lo_storeAm hH ti25 rfl rfl (by first | rfl | (simp; done)) (by first | rfl | (simp; done)) (one_B8 _)) ?_
 clear hH; rintro _ w hH
 refine wpList_nil ?_
 refine hK4 _ _ ?_
 clear hK4
 replace hA := hA.s1 4
 refine wp_ret ?_
 refine post_ret hA (res_c rfl hA rfl (resW hH 0 rfl Tryz.underlying25 rfl ti25 (by first | assumption | (rw [List.length_map]; assumption) | rfl | exact sha_length _ | (simp; done) | (simp [*]; done) | omega))) ?_
 replace hH := hH.pick [] (Hs' := []) rfl
 exact ⟨_, rfl, rfl, hH⟩

theorem refdigest_any {w0 : World} (l : Bs) (hl : l.length = 32) :
    Calls Tryz.prog 60 #[(.agg (l.map B8).toArray)] w0 (Ret fun r w' => ∃ v N, v = r ∧ Ow B8 5 v l N ∧ HS [] w0 w' [N]) := by
 have hH := HS.start w0
 refine start (n := 16) (E := [(0, _)]) Tryz.func60 rfl rfl rfl (args_look rfl) ?_
 intro a hA
 refine wp_seq_k fun K1 hK1 => ?_
 refine wp_region_lit ?_
 refine sl hA (lo_boxA hH rfl) rfl ?_
 clear hH; rintro _ w ⟨b_t1, rfl, hH⟩ a hA
 refine asg hA fun a hA => ?_
 refine wpList_nil ?_
 refine hK1 _ _ ?_
 clear hK1
 replace hA := hA.s2 2 1
 refine wp_seq_k fun K2 hK2 => ?_
 refine wp_region_lit ?_
 refine asg hA fun a hA => ?_
 refine wpList_nil ?_
 refine hK2 _ _ ?_
 clear hK2
 refine wp_seq_k fun K3 hK3 => ?_
 refine wp_seq_k fun K4 hK4 => ?_
 refine wp_region_lit ?_
 refine asg hA fun a hA => ?_
 refine wpList_nil ?_
 refine hK4 _ _ ?_
 clear hK4
 refine wp_block ?_
 replace hH := hH.nilFront
 refine wp_loop_ghost (fun gm a w => ∃ i : Nat, ∃ v_o : Value, ∃ N_o : Hl, At 16 [(4, I i), (3, v_o), (2, (.slice none 0 0)), (1, (.pointer (some ⟨b_t1, 0, none⟩)))] a ∧ HS [] w0 w ([N_o, [(b_t1, Obj.cells ((l).map B8).toArray 25 (0, 0))]]) ∧ (i ≤ 32) ∧ (Ow B8 5 v_o (l.take i) N_o) ∧ gm = 32 - i) (32 - (0)) ⟨0, (.slice none 0 0), [], hA.sub ⟨rfl, rfl, rfl, rfl, trivial⟩, hH, by omega, by exact Ow.nil B8 _, rfl⟩ ?_
 clear hA hH
 rintro gm a w ⟨i, v_o, N_o, hA, hH, hi, hO_o, rfl⟩
 refine wp_seq_k fun K5 hK5 => ?_
 refine wp_seq_k fun K6 hK6 => ?_
 refine wp_region_lit ?_
 refine mv hA fun a hA => ?_
 refine sq hA (q_lssI (n := 32) rfl rfl) rfl fun a hA => ?_
 refine wpList_nil ?_
 refine hK6 _ _ ?_
 clear hK6
 refine cond_d hA rfl (fun hc6 => ?_) (fun hc6 => ?_)
 ·skip
  refine wp_skip ?_
  refine hK5 _ _ ?_
  clear hK5
  refine wp_seq_k fun K7 hK7 => ?_
  refine wp_block ?_
  refine wp_region_lit ?_
  refine mv hA fun a hA => ?_
  refine mv hA fun a hA => ?_
  refine sq hA (q_idxA1 (i) Tryz.underlying25 ti5 rfl rfl (by first | omega | rfl) (by first | omega | (simp; done) | (simp; omega) | (rw [List.length_map]; assumption) | assumption | rfl | (simp [*]; done) | (simp [*]; omega))) rfl fun a hA => ?_
  refine sq hA (q_loadBm (0#8) hH 1 rfl Tryz.underlying5 rfl rfl (by first | omega | (simp; done) | (simp; omega) | (rw [List.length_map]; assumption) | assumption | rfl | (simp [*]; done) | (simp [*]; omega))) rfl fun a hA => ?_
  refine sl hA (lo_bs (f := B8) (e := 5) ([l.getD i 0#8]) hH rfl rfl (fun w => by kernel_rfl)) rfl ?_
  clear hH; rintro v_t13 w ⟨N_t13, hO_t13, hH⟩ a hA
  replace hH := hH.pick [1, 0, 2] (Hs' := [_, _, _]) rfl
  refine sl hA (lo_appm hH Tryz.underlying41 Tryz.underlying41 (.inl rfl) ti5 rfl rfl rfl hO_o (Rd.src (Own.rd0 hO_t13 hH 1 rfl)) (one_B8 _) (by first | omega | (simp; done) | (simp; omega)) (by first | omega | (simp; done) | (simp; omega))) rfl ?_
  clear hH; rintro v_t14 w ⟨N_t14, hO_t14, hH⟩ a hA
  refine asg hA fun a hA => ?_
  refine wpList_nil ?_
  refine block_normal ?_
  refine hK7 _ _ ?_
  clear hK7
  refine wp_region_lit ?_
  refine mv hA fun a hA => ?_
  refine sq hA (q_addI (n := 1) rfl rfl (by omega)) rfl fun a hA => ?_
  refine asg hA fun a hA => ?_
  refine wpList_nil ?_
  replace hH := hH.pick [0, 2, 1] (Hs' := [_, _, _]) rfl
  replace hH := hH.pick [0, 1] (Hs' := [_, _]) rfl
  exact ⟨_, by omega, i + 1, v_t14, N_t14, hA.sub ⟨rfl, rfl, rfl, rfl, trivial⟩, hH, by omega, by (rw [take_snoc (d := 0#8) l (by omega)]; exact hO_t14), rfl⟩
 ·skip
  obtain rfl : i = 32 := by omega
  rw [List.take_of_length_le (by omega)] at hO_o
  refine wp_exit ?_
  refine then_exit ?_
  refine then_exit ?_
  refine exit_here ?_
  refine hK3 _ _ ?_
  clear hK3
  replace hA := hA.s2 3 2
  refine wp_seq_k fun K8 hK8 => ?_
  refine wp_region_lit ?_
  refine mv hA fun a hA => ?_
  refine asg hA fun a hA => ?_
  refine wpList_nil ?_
  refine hK8 _ _ ?_
  clear hK8
  replace hA := hA.s1 2
  refine wp_ret ?_
  refine post_ret hA (res_1 rfl hA rfl) ?_
  replace hH := hH.pick [0] (Hs' := [_]) rfl
  exact ⟨_, rfl, v_o, N_o, rfl, hO_o, hH⟩

theorem refmac_any {w0 : World} {lv : Nat} (hg : Gl (lv + 2) w0) (u v : Value) (l t : Bs) (hu : By [] w0 u l) (hr : By [] w0 v t) (hl : l.length ≤ 1048576) (ht : t.length ≤ 1048000) :
    Calls Tryz.prog 61 #[u, v] w0 (Ret fun r w' => r = .agg ((macV l t).map B8).toArray ∧ HS [] w0 w' []) := by
 have hH := HS.start w0
 refine start (n := 45) (E := [(0, _), (1, _)]) Tryz.func61 rfl rfl rfl (args_look rfl) ?_
 intro a hA
 have hkk := kk_length l
 refine wp_seq_k fun K1 hK1 => ?_
 refine wp_region_lit ?_
 refine sl hA (lo_allocA hH ti25) rfl ?_
 clear hH; rintro _ w ⟨b_t4, rfl, hH⟩ a hA
 refine wpList_nil ?_
 refine hK1 _ _ ?_
 clear hK1
 refine wp_seq_k fun K2 hK2 => ?_
 refine wp_seq_k fun K3 hK3 => ?_
 refine wp_region_lit ?_
 refine mv hA fun a hA => ?_
 refine sq hA (q_len Tryz.underlying41 rfl (Rd.shp hu)) rfl fun a hA => ?_
 refine sq hA (q_gtrI (n := 64) rfl rfl) rfl fun a hA => ?_
 refine wpList_nil ?_
 refine hK3 _ _ ?_
 clear hK3
 replace hA := hA.s4 11 4 0 1
 refine cond_d hA rfl (fun hc11 => ?_) (fun hc11 => ?_)
 ·skip
  have hkl : (sha l).length ≤ 64 := by simp
  have hke := kk_big l (by omega)
  refine wp_region_lit ?_
  refine mv hA fun a hA => ?_
  refine sl hA (lo_call fn76 rfl (refsum_any (hg.mono0 hH) _ (l) (hH.rd hu) (by omega))) rfl ?_
  rintro _ w ⟨rfl, hC⟩ a hA
  replace hH := HS.call0 hH hC
  clear hC
  refine sl hA (lo_call fn60 rfl (refdigest_any (sha l) (by simp))) rfl ?_
  rintro _ w ⟨v_t14, N_t14, rfl, hO_t14, hC⟩ a hA
  replace hH := HS.call0 hH hC
  clear hC
  refine asg hA fun a hA => ?_
  refine wpList_nil ?_
  refine hK2 _ _ ?_
  clear hK2
  replace hA := hA.s3 0 4 1
  refine wp_seq_k fun K4 hK4 => ?_
  refine wp_region_lit ?_
  refine asg hA fun a hA => ?_
  refine asg hA fun a hA => ?_
  refine wpList_nil ?_
  refine hK4 _ _ ?_
  clear hK4
  refine wp_seq_k fun K5 hK5 => ?_
  refine wp_seq_k fun K6 hK6 => ?_
  refine wp_region_lit ?_
  refine asg hA fun a hA => ?_
  refine wpList_nil ?_
  refine hK6 _ _ ?_
  clear hK6
  refine wp_block ?_
  replace hH := hH.nilFront
  replace hH := hH.nilFront
  replace hH := HS.fold [_, _, _] [_] hH
  obtain ⟨NR7, hNR7, hH⟩ := hH
  refine wp_loop_ghost (fun gm a w => ∃ i : Nat, ∃ v_in : Value, ∃ v_out : Value, ∃ N_in : Hl, ∃ N_out : Hl, At 45 [(7, I i), (6, v_out), (5, v_in), (0, v_t14), (4, (.pointer (some ⟨b_t4, 0, none⟩))), (1, v)] a ∧ HS [] w0 w ([N_in, N_out, N_t14, NR7]) ∧ (i ≤ 64) ∧ (Ow B8 5 v_in (kin (sha l) 54#8 i) N_in) ∧ (Ow B8 5 v_out (kin (sha l) 92#8 i) N_out) ∧ gm = 64 - i) (64 - (0)) ⟨0, (.slice none 0 0), (.slice none 0 0), [], [], hA.sub ⟨rfl, rfl, rfl, rfl, rfl, rfl, trivial⟩, hH, by omega, by exact Ow.nil B8 _, by exact Ow.nil B8 _, rfl⟩ ?_
  clear hA hH
  rintro gm a w ⟨i, v_in, v_out, N_in, N_out, hA, hH, hi, hO_in, hO_out, rfl⟩
  refine wp_seq_k fun K8 hK8 => ?_
  refine wp_seq_k fun K9 hK9 => ?_
  refine wp_region_lit ?_
  refine mv hA fun a hA => ?_
  refine sq hA (q_lssI (n := 64) rfl rfl) rfl fun a hA => ?_
  refine wpList_nil ?_
  refine hK9 _ _ ?_
  clear hK9
  refine cond_d hA rfl (fun hc16 => ?_) (fun hc16 => ?_)
  ·skip
   refine wp_skip ?_
   refine hK8 _ _ ?_
   clear hK8
   refine wp_seq_k fun K10 hK10 => ?_
   refine wp_block ?_
   refine wp_seq_k fun K11 hK11 => ?_
   refine wp_region_lit ?_
   refine asg hA fun a hA => ?_
   refine wpList_nil ?_
   refine hK11 _ _ ?_
   clear hK11
   refine wp_seq_k fun K12 hK12 => ?_
   refine wp_seq_k fun K13 hK13 => ?_
   refine wp_region_lit ?_
   refine mv hA fun a hA => ?_
   refine mv hA fun a hA => ?_
   refine sq hA (q_len Tryz.underlying41 rfl (Own.shp hO_t14)) rfl fun a hA => ?_
   refine sq hA (q_lssI rfl rfl) rfl fun a hA => ?_
   refine wpList_nil ?_
   refine hK13 _ _ ?_
   clear hK13
   refine cond_d hA rfl (fun hc22 => ?_) (fun hc22 => ?_)
   ·skip
    obtain ⟨c, hcb⟩ : ∃ c, c = (sha l).getD i 0#8 := ⟨_, rfl⟩
    refine wp_region_lit ?_
    refine mv hA fun a hA => ?_
    refine mv hA fun a hA => ?_
    refine sq hA (q_idx1 (i) Tryz.underlying41 ti5 rfl rfl (by first | omega | rfl) (Own.shp hO_t14) (by first | omega | (simp; done) | (simp; omega) | (rw [List.length_map]; assumption) | assumption | rfl | (simp [*]; done) | (simp [*]; omega))) rfl fun a hA => ?_
    refine sq hA (q_loadRm (0#8) Tryz.underlying5 rfl rfl (Own.rd0 hO_t14 hH 2 rfl) (by first | omega | (simp; done) | (simp; omega) | (rw [List.length_map]; assumption) | assumption | rfl | (simp [*]; done) | (simp [*]; omega))) rfl fun a hA => ?_
    rw [← hcb] at hA
    refine asg hA fun a hA => ?_
    refine wpList_nil ?_
    refine hK12 _ _ ?_
    clear hK12
    refine wp_seq_k fun K14 hK14 => ?_
    refine wp_region_lit ?_
    refine mv hA fun a hA => ?_
    refine mv hA fun a hA => ?_
    refine sq hA (q_xor8 (q := 54#8) rfl rfl) rfl fun a hA => ?_
    refine sl hA (lo_bs (f := B8) (e := 5) ([c ^^^ 54#8]) hH rfl rfl (fun w => by kernel_rfl)) rfl ?_
    clear hH; rintro v_t30 w ⟨N_t30, hO_t30, hH⟩ a hA
    replace hH := hH.pick [1, 0, 2, 3, 4] (Hs' := [_, _, _, _, _]) rfl
    refine sl hA (lo_appm hH Tryz.underlying41 Tryz.underlying41 (.inl rfl) ti5 rfl rfl rfl hO_in (Rd.src (Own.rd0 hO_t30 hH 1 rfl)) (one_B8 _) (by first | omega | (simp; done) | (simp; omega)) (by first | omega | (simp; done) | (simp; omega))) rfl ?_
    clear hH; rintro v_t31 w ⟨N_t31, hO_t31, hH⟩ a hA
    refine asg hA fun a hA => ?_
    refine wpList_nil ?_
    refine hK14 _ _ ?_
    clear hK14
    refine wp_region_lit ?_
    refine mv hA fun a hA => ?_
    refine mv hA fun a hA => ?_
    refine sq hA (q_xor8 (q := 92#8) rfl rfl) rfl fun a hA => ?_
    refine sl hA (lo_bs (f := B8) (e := 5) ([c ^^^ 92#8]) hH rfl rfl (fun w => by kernel_rfl)) rfl ?_
    clear hH; rintro v_t35 w ⟨N_t35, hO_t35, hH⟩ a hA
    replace hH := hH.pick [3, 0, 1, 2, 4, 5] (Hs' := [_, _, _, _, _, _]) rfl
    refine sl hA (lo_appm hH Tryz.underlying41 Tryz.underlying41 (.inl rfl) ti5 rfl rfl rfl hO_out (Rd.src (Own.rd0 hO_t35 hH 1 rfl)) (one_B8 _) (by first | omega | (simp; done) | (simp; omega)) (by first | omega | (simp; done) | (simp; omega))) rfl ?_
    clear hH; rintro v_t36 w ⟨N_t36, hO_t36, hH⟩ a hA
    refine asg hA fun a hA => ?_
    refine wpList_nil ?_
    refine block_normal ?_
    refine hK10 _ _ ?_
    clear hK10
    refine wp_region_lit ?_
    refine mv hA fun a hA => ?_
    refine sq hA (q_addI (n := 1) rfl rfl (by omega)) rfl fun a hA => ?_
    refine asg hA fun a hA => ?_
    refine wpList_nil ?_
    replace hH := hH.pick [2, 0, 4, 5, 1, 3] (Hs' := [_, _, _, _, _, _]) rfl
    replace hH := hH.pick [0, 1, 2, 3] (Hs' := [_, _, _, _]) rfl
    exact ⟨_, by omega, i + 1, v_t31, v_t36, N_t31, N_t36, hA.sub ⟨rfl, rfl, rfl, rfl, rfl, rfl, trivial⟩, hH, by omega, by (rw [kin_succ, ← hcb]; exact hO_t31), by (rw [kin_succ, ← hcb]; exact hO_t36), rfl⟩
   ·skip
    obtain ⟨c, hcb, hc0⟩ : ∃ c, c = (sha l).getD i 0#8 ∧ c = 0#8 := ⟨_, rfl, by rw [List.getD, List.getElem?_eq_none (by omega)]; rfl⟩
    first | rw [← hc0] at hA | rw [show (Value.int .u8 0) = B8 c from (by rw [hc0]; rfl)] at hA
    refine wp_skip ?_
    refine hK12 _ _ ?_
    clear hK12
    refine wp_seq_k fun K15 hK15 => ?_
    refine wp_region_lit ?_
    refine mv hA fun a hA => ?_
    refine mv hA fun a hA => ?_
    refine sq hA (q_xor8 (q := 54#8) rfl rfl) rfl fun a hA => ?_
    refine sl hA (lo_bs (f := B8) (e := 5) ([c ^^^ 54#8]) hH rfl rfl (fun w => by kernel_rfl)) rfl ?_
    clear hH; rintro v_t30 w ⟨N_t30, hO_t30, hH⟩ a hA
    replace hH := hH.pick [1, 0, 2, 3, 4] (Hs' := [_, _, _, _, _]) rfl
    refine sl hA (lo_appm hH Tryz.underlying41 Tryz.underlying41 (.inl rfl) ti5 rfl rfl rfl hO_in (Rd.src (Own.rd0 hO_t30 hH 1 rfl)) (one_B8 _) (by first | omega | (simp; done) | (simp; omega)) (by first | omega | (simp; done) | (simp; omega))) rfl ?_
    clear hH; rintro v_t31 w ⟨N_t31, hO_t31, hH⟩ a hA
    refine asg hA fun a hA => ?_
    refine wpList_nil ?_
    refine hK15 _ _ ?_
    clear hK15
    refine wp_region_lit ?_
    refine mv hA fun a hA => ?_
    refine mv hA fun a hA => ?_
    refine sq hA (q_xor8 (q := 92#8) rfl rfl) rfl fun a hA => ?_
    refine sl hA (lo_bs (f := B8) (e := 5) ([c ^^^ 92#8]) hH rfl rfl (fun w => by kernel_rfl)) rfl ?_
    clear hH; rintro v_t35 w ⟨N_t35, hO_t35, hH⟩ a hA
    replace hH := hH.pick [3, 0, 1, 2, 4, 5] (Hs' := [_, _, _, _, _, _]) rfl
    refine sl hA (lo_appm hH Tryz.underlying41 Tryz.underlying41 (.inl rfl) ti5 rfl rfl rfl hO_out (Rd.src (Own.rd0 hO_t35 hH 1 rfl)) (one_B8 _) (by first | omega | (simp; done) | (simp; omega)) (by first | omega | (simp; done) | (simp; omega))) rfl ?_
    clear hH; rintro v_t36 w ⟨N_t36, hO_t36, hH⟩ a hA
    refine asg hA fun a hA => ?_
    refine wpList_nil ?_
    refine block_normal ?_
    refine hK10 _ _ ?_
    clear hK10
    refine wp_region_lit ?_
    refine mv hA fun a hA => ?_
    refine sq hA (q_addI (n := 1) rfl rfl (by omega)) rfl fun a hA => ?_
    refine asg hA fun a hA => ?_
    refine wpList_nil ?_
    replace hH := hH.pick [2, 0, 4, 5, 1, 3] (Hs' := [_, _, _, _, _, _]) rfl
    replace hH := hH.pick [0, 1, 2, 3] (Hs' := [_, _, _, _]) rfl
    exact ⟨_, by omega, i + 1, v_t31, v_t36, N_t31, N_t36, hA.sub ⟨rfl, rfl, rfl, rfl, rfl, rfl, trivial⟩, hH, by omega, by (rw [kin_succ, ← hcb]; exact hO_t31), by (rw [kin_succ, ← hcb]; exact hO_t36), rfl⟩
  ·skip
   obtain rfl : i = 64 := by omega
   rw [kin_end _ _ hkl, ← hke] at hO_in
   rw [kin_end _ _ hkl, ← hke] at hO_out
   refine wp_exit ?_
   refine then_exit ?_
   replace hH := HS.unfold [_, _, _] hNR7 hH
   refine then_exit ?_
   refine exit_here ?_
   refine hK5 _ _ ?_
   clear hK5
   replace hA := hA.s4 6 5 4 1
   refine wp_seq_k fun K16 hK16 => ?_
   refine wp_region_lit ?_
   refine mv hA fun a hA => ?_
   refine mv hA fun a hA => ?_
   refine mv hA fun a hA => ?_
   refine sl hA (lo_call fn77 rfl (join_any _ _ (xorB 54#8 (kk l)) (t) (Own.rd0 hO_in hH 0 rfl) (hH.rd hr) (by simp [hkk]; try omega))) rfl ?_
   rintro _ w ⟨v_t40, N_t40, rfl, hO_t40, hC⟩ a hA
   replace hH := HS.call0 hH hC
   clear hC
   refine sl hA (lo_call fn76 rfl (refsum_any (hg.mono0 hH) _ (xorB 54#8 (kk l) ++ t) (Own.rd0 hO_t40 hH 0 rfl) (by simp [hkk]; omega))) rfl ?_
   rintro _ w ⟨rfl, hC⟩ a hA
   replace hH := HS.call0 hH hC
   clear hC
   refine sl hA (lo_call fn60 rfl (refdigest_any (rndB (kk l) 54#8 t) (by simp))) rfl ?_
   rintro _ w ⟨v_t42, N_t42, rfl, hO_t42, hC⟩ a hA
   replace hH := HS.call0 hH hC
   clear hC
   refine sl hA (lo_call fn77 rfl (join_any _ _ (xorB 92#8 (kk l)) (rndB (kk l) 54#8 t) (Own.rd0 hO_out hH 3 rfl) (Own.rd0 hO_t42 hH 0 rfl) (by simp [hkk]; try omega))) rfl ?_
   rintro _ w ⟨v_t43, N_t43, rfl, hO_t43, hC⟩ a hA
   replace hH := HS.call0 hH hC
   clear hC
   refine sl hA (lo_call fn76 rfl (refsum_any (hg.mono0 hH) _ (xorB 92#8 (kk l) ++ rndB (kk l) 54#8 t) (Own.rd0 hO_t43 hH 0 rfl) (by simp [hkk]))) rfl ?_
   rintro _ w ⟨rfl, hC⟩ a hA
   replace hH := HS.call0 hH hC
   clear hC
   replace hH := hH.pick [6, 0, 1, 2, 3, 4, 5] (Hs' := [_, _, _, _, _, _, _]) rfl
   refine s0 hA (lo_storeAm hH ti25 rfl rfl (by first | rfl | (simp; done)) (by first | rfl | (simp; done)) (one_B8 _)) ?_
   clear hH; rintro _ w hH
   refine wpList_nil ?_
   refine hK16 _ _ ?_
   clear hK16
   replace hA := hA.s1 4
   refine wp_ret ?_
   refine post_ret hA (res_c rfl hA rfl (resW hH 0 rfl Tryz.underlying25 rfl ti25 (by first | assumption | (rw [List.length_map]; assumption) | rfl | exact sha_length _ | (simp; done) | (simp [*]; done) | omega))) ?_
   replace hH := hH.pick [] (Hs' := []) rfl
   exact ⟨_, rfl, rfl, hH⟩
 ·skip
  have hkl : l.length ≤ 64 := by omega
  have hke := kk_small l (by omega)
  refine wp_skip ?_
  refine hK2 _ _ ?_
  clear hK2
  replace hA := hA.s3 4 0 1
  refine wp_seq_k fun K17 hK17 => ?_
  refine wp_region_lit ?_
  refine asg hA fun a hA => ?_
  refine asg hA fun a hA => ?_
  refine wpList_nil ?_
  refine hK17 _ _ ?_
  clear hK17
  refine wp_seq_k fun K18 hK18 => ?_
  refine wp_seq_k fun K19 hK19 => ?_
  refine wp_region_lit ?_
  refine asg hA fun a hA => ?_
  refine wpList_nil ?_
  refine hK19 _ _ ?_
  clear hK19
  refine wp_block ?_
  replace hH := hH.nilFront
  replace hH := hH.nilFront
  replace hH := HS.fold [_, _] [_] hH
  obtain ⟨NR20, hNR20, hH⟩ := hH
  refine wp_loop_ghost (fun gm a w => ∃ i : Nat, ∃ v_in : Value, ∃ v_out : Value, ∃ N_in : Hl, ∃ N_out : Hl, At 45 [(7, I i), (6, v_out), (5, v_in), (4, (.pointer (some ⟨b_t4, 0, none⟩))), (0, u), (1, v)] a ∧ HS [] w0 w ([N_in, N_out, NR20]) ∧ (i ≤ 64) ∧ (Ow B8 5 v_in (kin (l) 54#8 i) N_in) ∧ (Ow B8 5 v_out (kin (l) 92#8 i) N_out) ∧ gm = 64 - i) (64 - (0)) ⟨0, (.slice none 0 0), (.slice none 0 0), [], [], hA.sub ⟨rfl, rfl, rfl, rfl, rfl, rfl, trivial⟩, hH, by omega, by exact Ow.nil B8 _, by exact Ow.nil B8 _, rfl⟩ ?_
  clear hA hH
  rintro gm a w ⟨i, v_in, v_out, N_in, N_out, hA, hH, hi, hO_in, hO_out, rfl⟩
  refine wp_seq_k fun K21 hK21 => ?_
  refine wp_seq_k fun K22 hK22 => ?_
  refine wp_region_lit ?_
  refine mv hA fun a hA => ?_
  refine sq hA (q_lssI (n := 64) rfl rfl) rfl fun a hA => ?_
  refine wpList_nil ?_
  refine hK22 _ _ ?_
  clear hK22
  refine cond_d hA rfl (fun hc16 => ?_) (fun hc16 => ?_)
  ·skip
   refine wp_skip ?_
   refine hK21 _ _ ?_
   clear hK21
   refine wp_seq_k fun K23 hK23 => ?_
   refine wp_block ?_
   refine wp_seq_k fun K24 hK24 => ?_
   refine wp_region_lit ?_
   refine asg hA fun a hA => ?_
   refine wpList_nil ?_
   refine hK24 _ _ ?_
   clear hK24
   refine wp_seq_k fun K25 hK25 => ?_
   refine wp_seq_k fun K26 hK26 => ?_
   refine wp_region_lit ?_
   refine mv hA fun a hA => ?_
   refine mv hA fun a hA => ?_
   refine sq hA (q_len Tryz.underlying41 rfl (Rd.shp hu)) rfl fun a hA => ?_
   refine sq hA (q_lssI rfl rfl) rfl fun a hA => ?_
   refine wpList_nil ?_
   refine hK26 _ _ ?_
   clear hK26
   refine cond_d hA rfl (fun hc22 => ?_) (fun hc22 => ?_)
   ·skip
    obtain ⟨c, hcb⟩ : ∃ c, c = (l).getD i 0#8 := ⟨_, rfl⟩
    refine wp_region_lit ?_
    refine mv hA fun a hA => ?_
    refine mv hA fun a hA => ?_
    refine sq hA (q_idx1 (i) Tryz.underlying41 ti5 rfl rfl (by first | omega | rfl) (Rd.shp hu) (by first | omega | (simp; done) | (simp; omega) | (rw [List.length_map]; assumption) | assumption | rfl | (simp [*]; done) | (simp [*]; omega))) rfl fun a hA => ?_
    refine sq hA (q_loadRm (0#8) Tryz.underlying5 rfl rfl (hH.rd hu) (by first | omega | (simp; done) | (simp; omega) | (rw [List.length_map]; assumption) | assumption | rfl | (simp [*]; done) | (simp [*]; omega))) rfl fun a hA => ?_
    rw [← hcb] at hA
    refine asg hA fun a hA => ?_
    refine wpList_nil ?_
    refine hK25 _ _ ?_
    clear hK25
    refine wp_seq_k fun K27 hK27 => ?_
    refine wp_region_lit ?_
    refine mv hA fun a hA => ?_
    refine mv hA fun a hA => ?_
    refine sq hA (q_xor8 (q := 54#8) rfl rfl) rfl fun a hA => ?_
    refine sl hA (lo_bs (f := B8) (e := 5) ([c ^^^ 54#8]) hH rfl rfl (fun w => by kernel_rfl)) rfl ?_
    clear hH; rintro v_t30 w ⟨N_t30, hO_t30, hH⟩ a hA
    replace hH := hH.pick [1, 0, 2, 3] (Hs' := [_, _, _, _]) rfl
    refine sl hA (lo_appm hH Tryz.underlying41 Tryz.underlying41 (.inl rfl) ti5 rfl rfl rfl hO_in (Rd.src (Own.rd0 hO_t30 hH 1 rfl)) (one_B8 _) (by first | omega | (simp; done) | (simp; omega)) (by first | omega | (simp; done) | (simp; omega))) rfl ?_
    clear hH; rintro v_t31 w ⟨N_t31, hO_t31, hH⟩ a hA
    refine asg hA fun a hA => ?_
    refine wpList_nil ?_
    refine hK27 _ _ ?_
    clear hK27
    refine wp_region_lit ?_
    refine mv hA fun a hA => ?_
    refine mv hA fun a hA => ?_
    refine sq hA (q_xor8 (q := 92#8) rfl rfl) rfl fun a hA => ?_
    refine sl hA (lo_bs (f := B8) (e := 5) ([c ^^^ 92#8]) hH rfl rfl (fun w => by kernel_rfl)) rfl ?_
    clear hH; rintro v_t35 w ⟨N_t35, hO_t35, hH⟩ a hA
    replace hH := hH.pick [3, 0, 1, 2, 4] (Hs' := [_, _, _, _, _]) rfl
    refine sl hA (lo_appm hH Tryz.underlying41 Tryz.underlying41 (.inl rfl) ti5 rfl rfl rfl hO_out (Rd.src (Own.rd0 hO_t35 hH 1 rfl)) (one_B8 _) (by first | omega | (simp; done) | (simp; omega)) (by first | omega | (simp; done) | (simp; omega))) rfl ?_
    clear hH; rintro v_t36 w ⟨N_t36, hO_t36, hH⟩ a hA
    refine asg hA fun a hA => ?_
    refine wpList_nil ?_
    refine block_normal ?_
    refine hK23 _ _ ?_
    clear hK23
    refine wp_region_lit ?_
    refine mv hA fun a hA => ?_
    refine sq hA (q_addI (n := 1) rfl rfl (by omega)) rfl fun a hA => ?_
    refine asg hA fun a hA => ?_
    refine wpList_nil ?_
    replace hH := hH.pick [2, 0, 4, 1, 3] (Hs' := [_, _, _, _, _]) rfl
    replace hH := hH.pick [0, 1, 2] (Hs' := [_, _, _]) rfl
    exact ⟨_, by omega, i + 1, v_t31, v_t36, N_t31, N_t36, hA.sub ⟨rfl, rfl, rfl, rfl, rfl, rfl, trivial⟩, hH, by omega, by (rw [kin_succ, ← hcb]; exact hO_t31), by (rw [kin_succ, ← hcb]; exact hO_t36), rfl⟩
   ·skip
    obtain ⟨c, hcb, hc0⟩ : ∃ c, c = (l).getD i 0#8 ∧ c = 0#8 := ⟨_, rfl, by rw [List.getD, List.getElem?_eq_none (by omega)]; rfl⟩
    first | rw [← hc0] at hA | rw [show (Value.int .u8 0) = B8 c from (by rw [hc0]; rfl)] at hA
    refine wp_skip ?_
    refine hK25 _ _ ?_
    clear hK25
    refine wp_seq_k fun K28 hK28 => ?_
    refine wp_region_lit ?_
    refine mv hA fun a hA => ?_
    refine mv hA fun a hA => ?_
    refine sq hA (q_xor8 (q := 54#8) rfl rfl) rfl fun a hA => ?_
    refine sl hA (lo_bs (f := B8) (e := 5) ([c ^^^ 54#8]) hH rfl rfl (fun w => by kernel_rfl)) rfl ?_
    clear hH; rintro v_t30 w ⟨N_t30, hO_t30, hH⟩ a hA
    replace hH := hH.pick [1, 0, 2, 3] (Hs' := [_, _, _, _]) rfl
    refine sl hA (lo_appm hH Tryz.underlying41 Tryz.underlying41 (.inl rfl) ti5 rfl rfl rfl hO_in (Rd.src (Own.rd0 hO_t30 hH 1 rfl)) (one_B8 _) (by first | omega | (simp; done) | (simp; omega)) (by first | omega | (simp; done) | (simp; omega))) rfl ?_
    clear hH; rintro v_t31 w ⟨N_t31, hO_t31, hH⟩ a hA
    refine asg hA fun a hA => ?_
    refine wpList_nil ?_
    refine hK28 _ _ ?_
    clear hK28
    refine wp_region_lit ?_
    refine mv hA fun a hA => ?_
    refine mv hA fun a hA => ?_
    refine sq hA (q_xor8 (q := 92#8) rfl rfl) rfl fun a hA => ?_
    refine sl hA (lo_bs (f := B8) (e := 5) ([c ^^^ 92#8]) hH rfl rfl (fun w => by kernel_rfl)) rfl ?_
    clear hH; rintro v_t35 w ⟨N_t35, hO_t35, hH⟩ a hA
    replace hH := hH.pick [3, 0, 1, 2, 4] (Hs' := [_, _, _, _, _]) rfl
    refine sl hA (lo_appm hH Tryz.underlying41 Tryz.underlying41 (.inl rfl) ti5 rfl rfl rfl hO_out (Rd.src (Own.rd0 hO_t35 hH 1 rfl)) (one_B8 _) (by first | omega | (simp; done) | (simp; omega)) (by first | omega | (simp; done) | (simp; omega))) rfl ?_
    clear hH; rintro v_t36 w ⟨N_t36, hO_t36, hH⟩ a hA
    refine asg hA fun a hA => ?_
    refine wpList_nil ?_
    refine block_normal ?_
    refine hK23 _ _ ?_
    clear hK23
    refine wp_region_lit ?_
    refine mv hA fun a hA => ?_
    refine sq hA (q_addI (n := 1) rfl rfl (by omega)) rfl fun a hA => ?_
    refine asg hA fun a hA => ?_
    refine wpList_nil ?_
    replace hH := hH.pick [2, 0, 4, 1, 3] (Hs' := [_, _, _, _, _]) rfl
    replace hH := hH.pick [0, 1, 2] (Hs' := [_, _, _]) rfl
    exact ⟨_, by omega, i + 1, v_t31, v_t36, N_t31, N_t36, hA.sub ⟨rfl, rfl, rfl, rfl, rfl, rfl, trivial⟩, hH, by omega, by (rw [kin_succ, ← hcb]; exact hO_t31), by (rw [kin_succ, ← hcb]; exact hO_t36), rfl⟩
  ·skip
   obtain rfl : i = 64 := by omega
   rw [kin_end _ _ hkl, ← hke] at hO_in
   rw [kin_end _ _ hkl, ← hke] at hO_out
   refine wp_exit ?_
   refine then_exit ?_
   replace hH := HS.unfold [_, _] hNR20 hH
   refine then_exit ?_
   refine exit_here ?_
   refine hK18 _ _ ?_
   clear hK18
   replace hA := hA.s4 6 5 4 1
   refine wp_seq_k fun K29 hK29 => ?_
   refine wp_region_lit ?_
   refine mv hA fun a hA => ?_
   refine mv hA fun a hA => ?_
   refine mv hA fun a hA => ?_
   refine sl hA (lo_call fn77 rfl (join_any _ _ (xorB 54#8 (kk l)) (t) (Own.rd0 hO_in hH 0 rfl) (hH.rd hr) (by simp [hkk]; try omega))) rfl ?_
   rintro _ w ⟨v_t40, N_t40, rfl, hO_t40, hC⟩ a hA
   replace hH := HS.call0 hH hC
   clear hC
   refine sl hA (lo_call fn76 rfl (refsum_any (hg.mono0 hH) _ (xorB 54#8 (kk l) ++ t) (Own.rd0 hO_t40 hH 0 rfl) (by simp [hkk]; omega))) rfl ?_
   rintro _ w ⟨rfl, hC⟩ a hA
   replace hH := HS.call0 hH hC
   clear hC
   refine sl hA (lo_call fn60 rfl (refdigest_any (rndB (kk l) 54#8 t) (by simp))) rfl ?_
   rintro _ w ⟨v_t42, N_t42, rfl, hO_t42, hC⟩ a hA
   replace hH := HS.call0 hH hC
   clear hC
   refine sl hA (lo_call fn77 rfl (join_any _ _ (xorB 92#8 (kk l)) (rndB (kk l) 54#8 t) (Own.rd0 hO_out hH 3 rfl) (Own.rd0 hO_t42 hH 0 rfl) (by simp [hkk]; try omega))) rfl ?_
   rintro _ w ⟨v_t43, N_t43, rfl, hO_t43, hC⟩ a hA
   replace hH := HS.call0 hH hC
   clear hC
   refine sl hA (lo_call fn76 rfl (refsum_any (hg.mono0 hH) _ (xorB 92#8 (kk l) ++ rndB (kk l) 54#8 t) (Own.rd0 hO_t43 hH 0 rfl) (by simp [hkk]))) rfl ?_
   rintro _ w ⟨rfl, hC⟩ a hA
   replace hH := HS.call0 hH hC
   clear hC
   replace hH := hH.pick [5, 0, 1, 2, 3, 4] (Hs' := [_, _, _, _, _, _]) rfl
   refine s0 hA (lo_storeAm hH ti25 rfl rfl (by first | rfl | (simp; done)) (by first | rfl | (simp; done)) (one_B8 _)) ?_
   clear hH; rintro _ w hH
   refine wpList_nil ?_
   refine hK29 _ _ ?_
   clear hK29
   replace hA := hA.s1 4
   refine wp_ret ?_
   refine post_ret hA (res_c rfl hA rfl (resW hH 0 rfl Tryz.underlying25 rfl ti25 (by first | assumption | (rw [List.length_map]; assumption) | rfl | exact sha_length _ | (simp; done) | (simp [*]; done) | omega))) ?_
   replace hH := hH.pick [] (Hs' := []) rfl
   exact ⟨_, rfl, rfl, hH⟩

end Go.Proofs.YtnnkgdijaekcfaaGreatDoor
