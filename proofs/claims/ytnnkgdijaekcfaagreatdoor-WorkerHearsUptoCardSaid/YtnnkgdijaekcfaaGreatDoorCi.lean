/- Layer 6 (tree): roots and paths of whatever digests, the program's and the document's. -/
import Derived.Test.YtnnkgdijaekcfaaGreatDoorCc
import Derived.Test.YtnnkgdijaekcfaaGreatDoorMzb
import Derived.Test.YtnnkgdijaekcfaaGreatDoorMzc
import Derived.Test.YtnnkgdijaekcfaaGreatDoorCs
namespace Go.Proofs.YtnnkgdijaekcfaaGreatDoor
open Go
set_option linter.unusedVariables false
set_option linter.unusedSimpArgs false
set_option maxRecDepth 100000

theorem refright_yes {w0 : World} (m : Nat) (hm : m ≤ 10) :
    Calls Tryz.prog 53 #[I ((2 ^ m : Nat) : Int)] w0 (Ret fun r w' => r = .bool true ∧ HS [] w0 w' []) := by
 have hH := HS.start w0
 refine start (n := 11) (E := [(0, _)]) Tryz.func53 rfl rfl rfl (args_look rfl) ?_
 intro a hA
 refine wp_seq_k fun K1 hK1 => ?_
 refine wp_region_lit ?_
 refine asg hA fun a hA => ?_
 refine wpList_nil ?_
 refine hK1 _ _ ?_
 clear hK1
 refine wp_seq_k fun K2 hK2 => ?_
 refine wp_seq_k fun K3 hK3 => ?_
 refine wp_region_lit ?_
 refine asg hA fun a hA => ?_
 refine wpList_nil ?_
 refine hK3 _ _ ?_
 clear hK3
 refine wp_block ?_
 refine wp_loop_ghost (fun gm a w => ∃ j : Nat, At 11 [(3, I ((2 ^ j : Nat) : Int)), (2, (.bool false)), (0, I ((2 ^ m : Nat) : Int))] a ∧ HS [] w0 w ([]) ∧ (j ≤ m) ∧ gm = m - j) (m - (0)) ⟨0, hA.sub ⟨rfl, rfl, rfl, trivial⟩, hH, by omega, rfl⟩ ?_
 clear hA hH
 rintro gm a w ⟨j, hA, hH, hj, rfl⟩
 have hjp := pow_le (m := j) (by omega)
 have hj0 := Nat.pow_pos (n := j) (show 0 < 2 by decide)
 refine wp_seq_k fun K4 hK4 => ?_
 refine wp_seq_k fun K5 hK5 => ?_
 refine wp_region_lit ?_
 refine mv hA fun a hA => ?_
 refine sq hA (q_leqI (n := 1024) rfl rfl) rfl fun a hA => ?_
 refine wpList_nil ?_
 refine hK5 _ _ ?_
 clear hK5
 refine cond_d hA rfl (fun _ => ?_) (fun hnn => absurd (by omega) hnn)
 refine wp_skip ?_
 refine hK4 _ _ ?_
 clear hK4
 refine wp_seq_k fun K6 hK6 => ?_
 refine wp_block ?_
 refine wp_seq_k fun K7 hK7 => ?_
 refine wp_region_lit ?_
 refine mv hA fun a hA => ?_
 refine mv hA fun a hA => ?_
 refine sq hA (q_eqlI rfl rfl) rfl fun a hA => ?_
 refine wpList_nil ?_
 refine hK7 _ _ ?_
 clear hK7
 refine cond_d hA rfl (fun hc10 => ?_) (fun hc10 => ?_)
 ·skip
  refine wp_seq_k fun K8 hK8 => ?_
  refine wp_region_lit ?_
  refine asg hA fun a hA => ?_
  refine wpList_nil ?_
  refine hK8 _ _ ?_
  clear hK8
  refine wp_ret ?_
  refine block_ret ?_
  refine then_ret ?_
  refine then_ret ?_
  refine block_ret ?_
  refine then_ret ?_
  refine post_ret hA (res_1 rfl hA rfl) ?_
  exact ⟨_, rfl, rfl, hH⟩
 ·skip
  have hjm : j ≠ m := fun e => hc10 (by rw [e])
  refine wp_skip ?_
  refine block_normal ?_
  refine hK6 _ _ ?_
  clear hK6
  refine wp_region_lit ?_
  refine mv hA fun a hA => ?_
  refine sq hA (q_mulI (m := 2) rfl rfl (by omega)) rfl fun a hA => ?_
  rw [show (2 : Int) * ((2 ^ j : Nat) : Int) = ((2 ^ (j + 1) : Nat) : Int) by rw [Nat.pow_succ]; omega] at hA
  refine asg hA fun a hA => ?_
  refine wpList_nil ?_
  exact ⟨_, by omega, j + 1, hA.sub ⟨rfl, rfl, rfl, trivial⟩, hH, by omega, rfl⟩

theorem refrt_zero {w0 : World} (v : Value) (ls : List Bs) (hd : Dg ls) (hr : RdD [] w0 v ls) (hls : ls.length = 1) :
    Calls Tryz.prog 54 #[v] w0 (Ret fun r w' => r = .agg ((rt ls 0).map B8).toArray ∧ HS [] w0 w' []) := by
 have hH := HS.start w0
 refine start (n := 22) (E := [(0, _)]) Tryz.func54 rfl rfl rfl (args_look rfl) ?_
 intro a hA
 have hl0 : (ls.getD 0 []).length = 32 := hd.getD (by omega)
 refine wp_seq_k fun K1 hK1 => ?_
 refine wp_region_lit ?_
 refine sl hA (lo_allocA hH ti25) rfl ?_
 clear hH; rintro _ w ⟨b_t2, rfl, hH⟩ a hA
 refine wpList_nil ?_
 refine hK1 _ _ ?_
 clear hK1
 refine wp_seq_k fun K2 hK2 => ?_
 refine wp_seq_k fun K3 hK3 => ?_
 refine wp_region_lit ?_
 refine mv hA fun a hA => ?_
 refine sq hA (q_len Tryz.underlying69 rfl (Rd.shp hr)) rfl fun a hA => ?_
 refine sq hA (Runs.bt (q_eqlI (n := 1) rfl rfl) (by omega)) rfl fun a hA => ?_
 refine wpList_nil ?_
 refine hK3 _ _ ?_
 clear hK3
 replace hA := hA.s3 5 2 0
 refine cond_t hA rfl ?_
 refine wp_seq_k fun K4 hK4 => ?_
 refine wp_region_lit ?_
 refine mv hA fun a hA => ?_
 refine sq hA (q_idxk (0) Tryz.underlying69 ti25 rfl rfl (rfl) (Rd.shp hr) (by first | omega | (simp; done) | (simp; omega) | (rw [List.length_map]; assumption) | assumption | rfl | (simp [*]; done) | (simp [*]; omega))) rfl fun a hA => ?_
 refine sq hA (q_loadRA (i := 0) Tryz.underlying25 rfl ti25 rfl (hH.rd hr) (by first | omega | (simp; done) | (simp; omega) | (rw [List.length_map]; assumption) | assumption | rfl | (simp [*]; done) | (simp [*]; omega)) _ (dc_at (by assumption) (by first | omega | (simp; done) | (simp; omega) | (rw [List.length_map]; assumption) | assumption | rfl | (simp [*]; done) | (simp [*]; omega)))) rfl fun a hA => ?_
 refine s0 hA (lo_storeAm hH ti25 rfl rfl (by first | omega | (simp; done) | (simp; omega) | (rw [List.length_map]; assumption) | assumption | rfl | (simp [*]; done) | (simp [*]; omega)) (by first | omega | (simp; done) | (simp; omega) | (rw [List.length_map]; assumption) | assumption | rfl | (simp [*]; done) | (simp [*]; omega)) (one_B8 _)) ?_
 clear hH; rintro _ w hH
 refine wpList_nil ?_
 refine hK4 _ _ ?_
 clear hK4
 replace hA := hA.s2 2 0
 refine wp_ret ?_
 refine then_ret ?_
 refine post_ret hA (res_c rfl hA rfl (resW hH 0 rfl Tryz.underlying25 rfl ti25 (by first | assumption | (rw [List.length_map]; assumption) | rfl | exact sha_length _ | (simp; done) | (simp [*]; done) | omega))) ?_
 replace hH := hH.pick [] (Hs' := []) rfl
 exact ⟨_, rfl, rfl, hH⟩

theorem refrt_step {w0 : World} {lv : Nat} (hg : Gl (lv + 2) w0) (m : Nat) (ih : ∀ {w0 : World} (v : Value) (ls : List Bs), Gl (lv + 2) w0 → Dg ls → RdD [] w0 v ls → ls.length = 2 ^ m → Calls Tryz.prog 54 #[v] w0 (Ret fun r w' => r = .agg ((rt ls m).map B8).toArray ∧ HS [] w0 w' [])) (v : Value) (ls : List Bs) (hd : Dg ls) (hr : RdD [] w0 v ls) (hls : ls.length = 2 ^ (m + 1)) (hm : m ≤ 10) :
    Calls Tryz.prog 54 #[v] w0 (Ret fun r w' => r = .agg ((rt ls (m + 1)).map B8).toArray ∧ HS [] w0 w' []) := by
 have hH := HS.start w0
 refine start (n := 22) (E := [(0, _)]) Tryz.func54 rfl rfl rfl (args_look rfl) ?_
 intro a hA
 have hpm := pow_le hm
 have hp2 : 2 ^ (m + 1) = 2 * 2 ^ m := by rw [Nat.pow_succ]; omega
 have hpos := Nat.pow_pos (n := m) (show 0 < 2 by decide)
 have hkt : (ls.take (2 ^ m)).length = 2 ^ m := by rw [List.length_take]; omega
 have hkd : (ls.drop (2 ^ m)).length = 2 ^ m := by rw [List.length_drop]; omega
 have hra := rt_length (hd.take (2 ^ m)) hkt
 have hrb := rt_length (hd.drop (2 ^ m)) hkd
 have hdt := hd.take (2 ^ m)
 have hdd := hd.drop (2 ^ m)
 refine wp_seq_k fun K1 hK1 => ?_
 refine wp_region_lit ?_
 refine sl hA (lo_allocA hH ti25) rfl ?_
 clear hH; rintro _ w ⟨b_t2, rfl, hH⟩ a hA
 refine wpList_nil ?_
 refine hK1 _ _ ?_
 clear hK1
 refine wp_seq_k fun K2 hK2 => ?_
 refine wp_seq_k fun K3 hK3 => ?_
 refine wp_region_lit ?_
 refine mv hA fun a hA => ?_
 refine sq hA (q_len Tryz.underlying69 rfl (Rd.shp hr)) rfl fun a hA => ?_
 refine sq hA (Runs.bf (q_eqlI (n := 1) rfl rfl) (by omega)) rfl fun a hA => ?_
 refine wpList_nil ?_
 refine hK3 _ _ ?_
 clear hK3
 replace hA := hA.s3 5 2 0
 refine cond_f hA rfl ?_
 refine wp_skip ?_
 refine hK2 _ _ ?_
 clear hK2
 replace hA := hA.s2 2 0
 refine wp_seq_k fun K4 hK4 => ?_
 refine any_go mixed (fun j => !(Nat.beq j 5 || Nat.beq j 11 || Nat.beq j 12 || Nat.beq j 13)) hH ?_
 clear hH; intro w hH
 have hS := hH
 refine any_l 14 ?_
 refine p0 hA 0 1 rfl (fun w => (q_move rfl)) fun a hA => ?_
 refine p0 hA 1 3 rfl (fun w => (q_move rfl)) fun a hA => ?_
 refine p0 hA 2 7 rfl (fun w => (q_len Tryz.underlying69 rfl (Rd.shp hr))) fun a hA => ?_
 refine p0 hA 3 15 rfl (fun w => (q_quoI (n := 2) rfl rfl (by omega))) fun a hA => ?_
 rw [show ((ls.length : Int) / 2) = ((2 ^ m : Nat) : Int) by rw [hls, Nat.pow_succ]; omega] at hA
 obtain ⟨v_t13, hv_t13, hO_t13⟩ := RdD.cut0 hr (by assumption) (2 ^ m) (by first | omega | (simp; omega) | (simp [*]; omega))
 refine p0 hA 4 31 rfl (fun w => (q_slice Tryz.underlying69 ti25 rfl (0) (2 ^ m) hv_t13 (Rd.shp hr) rfl rfl (rfl) (rfl) (by first | omega | (simp; omega) | (simp [*]; omega)) (by first | omega | (simp; omega) | (simp [*]; omega)))) fun a hA => ?_
 refine p0 hA 6 95 rfl (fun w => (q_move rfl)) fun a hA => ?_
 refine p0 hA 7 223 rfl (fun w => (q_move rfl)) fun a hA => ?_
 refine p0 hA 8 479 rfl (fun w => (q_len Tryz.underlying69 rfl (Rd.shp hr))) fun a hA => ?_
 refine p0 hA 9 991 rfl (fun w => (q_quoI (n := 2) rfl rfl (by omega))) fun a hA => ?_
 rw [show ((ls.length : Int) / 2) = ((2 ^ m : Nat) : Int) by rw [hls, Nat.pow_succ]; omega] at hA
 obtain ⟨v_t19, hv_t19, hO_t19⟩ := RdD.cutE hr (by assumption) (2 ^ m) (by first | omega | (simp; omega) | (simp [*]; omega))
 refine p0 hA 10 2015 rfl (fun w => (q_slice Tryz.underlying69 ti25 rfl (2 ^ m) (_) hv_t19 (Rd.shp hr) rfl rfl (rfl) (by first | rfl | (simp; done) | omega) (by first | omega | (simp; omega) | (simp [*]; omega)) (by first | omega | (simp; omega) | (simp [*]; omega)))) fun a hA => ?_
 refine a1n hA 5 2047 rfl (lo_call fn54 rfl (ih _ (ls.take (2 ^ m)) (hg.mono0 hH) hdt (hH.rd hO_t13) hkt)) ?_
 rintro _ w ⟨rfl, hC⟩
 replace hH := HS.call0 hH hC
 clear hC
 intro a hA
 refine a1n hA 11 4095 rfl (lo_call fn54 rfl (ih _ (ls.drop (2 ^ m)) (hg.mono0 hH) hdd (hH.rd hO_t19) hkd)) ?_
 rintro _ w ⟨rfl, hC⟩
 replace hH := HS.call0 hH hC
 clear hC
 intro a hA
 refine a1n hA 12 8191 rfl (lo_call fn93 rfl (refabove_any (hg.mono0 hH) _ _ hra hrb)) ?_
 rintro _ w ⟨rfl, hC⟩
 replace hH := HS.call0 hH hC
 clear hC
 intro a hA
 refine a0n hA 13 16383 rfl (lo_storeAm hH ti25 rfl rfl (by first | omega | (simp; done) | (simp; omega) | (rw [List.length_map]; assumption) | assumption | rfl | (simp [*]; done) | (simp [*]; omega)) (by first | omega | (simp; done) | (simp; omega) | (rw [List.length_map]; assumption) | assumption | rfl | (simp [*]; done) | (simp [*]; omega)) (one_B8 _)) ?_
 clear hH; rintro _ w hH
 refine a_end (by kernel_rfl) ?_ _
 refine hK4 _ _ ?_
 clear hK4
 replace hA := hA.s1 2
 refine wp_ret ?_
 refine post_ret hA (res_c rfl hA rfl (resW hH 0 rfl Tryz.underlying25 rfl ti25 (by first | assumption | (rw [List.length_map]; assumption) | rfl | exact sha_length _ | (simp; done) | (simp [*]; done) | omega))) ?_
 replace hH := hH.pick [] (Hs' := []) rfl
 exact ⟨_, rfl, by rw [rt_split hls], hH⟩

theorem refrt_any {lv : Nat} : ∀ (m : Nat), m ≤ 10 → ∀ {w0 : World} (v : Value) (ls : List Bs), Gl (lv + 2) w0 → Dg ls → RdD [] w0 v ls → ls.length = 2 ^ m → Calls Tryz.prog 54 #[v] w0 (Ret fun r w' => r = .agg ((rt ls m).map B8).toArray ∧ HS [] w0 w' [])
  | 0, _, _, v, ls, _, hd, hr, hl => refrt_zero v ls hd hr hl
  | m + 1, hm, _, v, ls, hg, hd, hr, hl => refrt_step hg m (refrt_any m (by omega)) v ls hd hr hl (by omega)
theorem refroot_any {w0 : World} {lv : Nat} (hg : Gl (lv + 2) w0) (v : Value) (ls : List Bs) (hd : Dg ls) (hr : RdD [] w0 v ls) (m : Nat) (hm : m ≤ 10) (hls : ls.length = 2 ^ m) :
    Calls Tryz.prog 23 #[v] w0 (Ret fun r w' => r = .tuple #[.agg ((rt ls m).map B8).toArray, I 0] ∧ HS [] w0 w' []) := by
 have hH := HS.start w0
 refine start (n := 11) (E := [(0, _)]) Tryz.func23 rfl rfl rfl (args_look rfl) ?_
 intro a hA
 have hrl := rt_length hd hls
 refine wp_seq_k fun K1 hK1 => ?_
 refine wp_region_lit ?_
 refine sl hA (lo_allocA hH ti25) rfl ?_
 clear hH; rintro _ w ⟨b_t2, rfl, hH⟩ a hA
 refine asg hA fun a hA => ?_
 refine wpList_nil ?_
 refine hK1 _ _ ?_
 clear hK1
 refine wp_seq_k fun K2 hK2 => ?_
 refine wp_seq_k fun K3 hK3 => ?_
 refine wp_region_lit ?_
 refine mv hA fun a hA => ?_
 refine sq hA (q_len Tryz.underlying69 rfl (Rd.shp hr)) rfl fun a hA => ?_
 rw [hls] at hA
 refine sl hA (lo_call fn53 rfl (refright_yes m hm)) rfl ?_
 rintro _ w ⟨rfl, hC⟩ a hA
 replace hH := HS.call0 hH hC
 clear hC
 refine sq hA (q_not rfl) rfl fun a hA => ?_
 refine wpList_nil ?_
 refine hK3 _ _ ?_
 clear hK3
 replace hA := hA.s4 7 3 2 0
 refine cond_f hA rfl ?_
 refine wp_skip ?_
 refine hK2 _ _ ?_
 clear hK2
 replace hA := hA.s3 3 2 0
 refine wp_seq_k fun K4 hK4 => ?_
 refine wp_region_lit ?_
 refine mv hA fun a hA => ?_
 refine sl hA (lo_call fn54 rfl (refrt_any m hm _ ls (hg.mono0 hH) hd (hH.rd hr) hls)) rfl ?_
 rintro _ w ⟨rfl, hC⟩ a hA
 replace hH := HS.call0 hH hC
 clear hC
 refine s0 hA (lo_storeAm hH ti25 rfl rfl (by first | omega | (simp; done) | (simp; omega) | (rw [List.length_map]; assumption) | assumption | rfl | (simp [*]; done) | (simp [*]; omega)) (by first | omega | (simp; done) | (simp; omega) | (rw [List.length_map]; assumption) | assumption | rfl | (simp [*]; done) | (simp [*]; omega)) (one_B8 _)) ?_
 clear hH; rintro _ w hH
 refine asg hA fun a hA => ?_
 refine wpList_nil ?_
 refine hK4 _ _ ?_
 clear hK4
 replace hA := hA.s2 3 2
 refine wp_ret ?_
 refine post_ret hA (res_c1 rfl hA rfl rfl (resW hH 0 rfl Tryz.underlying25 rfl ti25 (by first | assumption | (rw [List.length_map]; assumption) | rfl | exact sha_length _ | (simp; done) | (simp [*]; done) | omega))) ?_
 replace hH := hH.pick [] (Hs' := []) rfl
 exact ⟨_, rfl, rfl, hH⟩

theorem refpth_zero {w0 : World} (v : Value) (ls : List Bs) (hd : Dg ls) (hr : RdD [] w0 v ls) (i : Nat) (hls : ls.length = 1) :
    Calls Tryz.prog 112 #[v, I i] w0 (Ret fun r w' => ∃ v' N, v' = r ∧ OwD 25 v' (pth ls i 0) N ∧ HS [] w0 w' [N]) := by
 have hH := HS.start w0
 refine start (n := 43) (E := [(0, _), (1, _)]) Tryz.func112 rfl rfl rfl (args_look rfl) ?_
 intro a hA
 refine wp_seq_k fun K1 hK1 => ?_
 refine wp_region_lit ?_
 refine asg hA fun a hA => ?_
 refine wpList_nil ?_
 refine hK1 _ _ ?_
 clear hK1
 refine wp_seq_k fun K2 hK2 => ?_
 refine wp_seq_k fun K3 hK3 => ?_
 refine wp_region_lit ?_
 refine mv hA fun a hA => ?_
 refine sq hA (q_len Tryz.underlying69 rfl (Rd.shp hr)) rfl fun a hA => ?_
 refine sq hA (Runs.bt (q_eqlI (n := 1) rfl rfl) (by omega)) rfl fun a hA => ?_
 refine wpList_nil ?_
 refine hK3 _ _ ?_
 clear hK3
 replace hA := hA.s4 10 4 0 1
 refine cond_t hA rfl ?_
 refine wp_seq_k fun K4 hK4 => ?_
 refine wp_region_lit ?_
 refine asg hA fun a hA => ?_
 refine wpList_nil ?_
 refine hK4 _ _ ?_
 clear hK4
 replace hA := hA.s3 4 0 1
 refine wp_ret ?_
 refine then_ret ?_
 refine post_ret hA (res_1 rfl hA rfl) ?_
 exact ⟨_, rfl, _, [], rfl, Own.nil _ _, hH.nilFront⟩

theorem refpth_step {w0 : World} {lv : Nat} (hg : Gl (lv + 2) w0) (m : Nat) (ih : ∀ {w0 : World} (v : Value) (ls : List Bs) (i : Nat), Gl (lv + 2) w0 → Dg ls → RdD [] w0 v ls → ls.length = 2 ^ m → i < 2 ^ m → Calls Tryz.prog 112 #[v, I i] w0 (Ret fun r w' => ∃ v' N, v' = r ∧ OwD 25 v' (pth ls i m) N ∧ HS [] w0 w' [N])) (v : Value) (ls : List Bs) (hd : Dg ls) (hr : RdD [] w0 v ls) (i : Nat) (hls : ls.length = 2 ^ (m + 1)) (hm : m ≤ 10) (hi : i < 2 ^ (m + 1)) :
    Calls Tryz.prog 112 #[v, I i] w0 (Ret fun r w' => ∃ v' N, v' = r ∧ OwD 25 v' (pth ls i (m + 1)) N ∧ HS [] w0 w' [N]) := by
 have hH := HS.start w0
 refine start (n := 43) (E := [(0, _), (1, _)]) Tryz.func112 rfl rfl rfl (args_look rfl) ?_
 intro a hA
 have hpm := pow_le hm
 have hp2 : 2 ^ (m + 1) = 2 * 2 ^ m := by rw [Nat.pow_succ]; omega
 have hpos := Nat.pow_pos (n := m) (show 0 < 2 by decide)
 have hkt : (ls.take (2 ^ m)).length = 2 ^ m := by rw [List.length_take]; omega
 have hkd : (ls.drop (2 ^ m)).length = 2 ^ m := by rw [List.length_drop]; omega
 have hra := rt_length (hd.take (2 ^ m)) hkt
 have hrb := rt_length (hd.drop (2 ^ m)) hkd
 have hdt := hd.take (2 ^ m)
 have hdd := hd.drop (2 ^ m)
 refine wp_seq_k fun K1 hK1 => ?_
 refine wp_region_lit ?_
 refine asg hA fun a hA => ?_
 refine wpList_nil ?_
 refine hK1 _ _ ?_
 clear hK1
 refine wp_seq_k fun K2 hK2 => ?_
 refine wp_seq_k fun K3 hK3 => ?_
 refine wp_region_lit ?_
 refine mv hA fun a hA => ?_
 refine sq hA (q_len Tryz.underlying69 rfl (Rd.shp hr)) rfl fun a hA => ?_
 refine sq hA (Runs.bf (q_eqlI (n := 1) rfl rfl) (by omega)) rfl fun a hA => ?_
 refine wpList_nil ?_
 refine hK3 _ _ ?_
 clear hK3
 replace hA := hA.s4 10 4 0 1
 refine cond_f hA rfl ?_
 refine wp_skip ?_
 refine hK2 _ _ ?_
 clear hK2
 replace hA := hA.s3 4 0 1
 refine wp_seq_k fun K4 hK4 => ?_
 refine wp_region_lit ?_
 refine mv hA fun a hA => ?_
 refine sq hA (q_len Tryz.underlying69 rfl (Rd.shp hr)) rfl fun a hA => ?_
 refine sq hA (q_quoI (n := 2) rfl rfl (by omega)) rfl fun a hA => ?_
 rw [show ((ls.length : Int) / 2) = ((2 ^ m : Nat) : Int) by rw [hls, Nat.pow_succ]; omega] at hA
 refine asg hA fun a hA => ?_
 refine wpList_nil ?_
 refine hK4 _ _ ?_
 clear hK4
 replace hA := hA.s4 5 4 0 1
 refine wp_seq_k fun K5 hK5 => ?_
 refine wp_seq_k fun K6 hK6 => ?_
 refine wp_region_lit ?_
 refine mv hA fun a hA => ?_
 refine mv hA fun a hA => ?_
 refine sq hA (q_lssI rfl rfl) rfl fun a hA => ?_
 refine wpList_nil ?_
 refine hK6 _ _ ?_
 clear hK6
 replace hA := hA.s5 16 5 4 0 1
 refine cond_d hA rfl (fun hc16 => ?_) (fun hc16 => ?_)
 ·skip
  refine wp_seq_k fun K7 hK7 => ?_
  refine wp_region_lit ?_
  refine mv hA fun a hA => ?_
  refine mv hA fun a hA => ?_
  obtain ⟨v_t19, hv_t19, hO_t19⟩ := RdD.cut0 hr (by assumption) (2 ^ m) (by first | omega | (simp; omega) | (simp [*]; omega))
  refine sq hA (q_slice Tryz.underlying69 ti25 rfl (0) (2 ^ m) hv_t19 (Rd.shp hr) rfl rfl (rfl) (rfl) (by first | omega | (simp; omega) | (simp [*]; omega)) (by first | omega | (simp; omega) | (simp [*]; omega))) rfl fun a hA => ?_
  refine mv hA fun a hA => ?_
  refine sl hA (lo_call fn112 rfl (ih _ (ls.take (2 ^ m)) (i) (hg.mono0 hH) hdt (hH.rd hO_t19) hkt (by omega))) rfl ?_
  rintro _ w ⟨v_t21, N_t21, rfl, hO_t21, hC⟩ a hA
  replace hH := HS.call0 hH hC
  clear hC
  refine asg hA fun a hA => ?_
  refine wpList_nil ?_
  refine hK7 _ _ ?_
  clear hK7
  replace hA := hA.s5 6 5 4 0 1
  refine wp_seq_k fun K8 hK8 => ?_
  refine wp_region_lit ?_
  refine mv hA fun a hA => ?_
  refine mv hA fun a hA => ?_
  refine mv hA fun a hA => ?_
  obtain ⟨v_t25, hv_t25, hO_t25⟩ := RdD.cutE hr (by assumption) (2 ^ m) (by first | omega | (simp; omega) | (simp [*]; omega))
  refine sq hA (q_slice Tryz.underlying69 ti25 rfl (2 ^ m) (_) hv_t25 (Rd.shp hr) rfl rfl (rfl) (by first | rfl | (simp; done) | omega) (by first | omega | (simp; omega) | (simp [*]; omega)) (by first | omega | (simp; omega) | (simp [*]; omega))) rfl fun a hA => ?_
  refine sl hA (lo_call fn54 rfl (refrt_any m (by omega) _ (ls.drop (2 ^ m)) (hg.mono0 hH) hdd (hH.rd hO_t25) hkd)) rfl ?_
  rintro _ w ⟨rfl, hC⟩ a hA
  replace hH := HS.call0 hH hC
  clear hC
  refine sl hA (lo_buildD (ls := [_]) hH Tryz.underlying69 ti25 rfl rfl rfl (by decide) (by decide) (by first | assumption | exact Dg.one (by first | assumption | (rw [List.length_map]; assumption) | rfl | exact sha_length _ | (simp; done) | (simp [*]; done) | omega) | exact Dg.two (by first | assumption | (rw [List.length_map]; assumption) | rfl | exact sha_length _ | (simp; done) | (simp [*]; done) | omega) (by first | assumption | (rw [List.length_map]; assumption) | rfl | exact sha_length _ | (simp; done) | (simp [*]; done) | omega))) rfl ?_
  clear hH; rintro v_t27 w ⟨N_t27, hO_t27, hH⟩ a hA
  replace hH := hH.pick [1, 0] (Hs' := [_, _]) rfl
  refine sl hA (lo_appD hH Tryz.underlying69 Tryz.underlying69 (.inl rfl) ti25 rfl rfl rfl hO_t21 (Own.rd0 hO_t27 hH 1 rfl) (by first | omega | (simp; omega)) (by first | omega | (simp; omega))) rfl ?_
  clear hH; rintro v_t28 w ⟨N_t28, hO_t28, hH⟩ a hA
  refine asg hA fun a hA => ?_
  refine wpList_nil ?_
  refine hK8 _ _ ?_
  clear hK8
  replace hA := hA.s4 4 5 0 1
  refine wp_ret ?_
  refine then_ret ?_
  refine post_ret hA (res_1 rfl hA rfl) ?_
  replace hH := hH.pick [0] (Hs' := [_]) rfl
  exact ⟨_, rfl, v_t28, N_t28, rfl, by rw [pth_l hls (by omega)]; exact hO_t28, hH⟩
 ·skip
  refine wp_skip ?_
  refine hK5 _ _ ?_
  clear hK5
  replace hA := hA.s4 5 4 0 1
  refine wp_seq_k fun K9 hK9 => ?_
  refine wp_region_lit ?_
  refine mv hA fun a hA => ?_
  refine mv hA fun a hA => ?_
  obtain ⟨v_t31, hv_t31, hO_t31⟩ := RdD.cutE hr (by assumption) (2 ^ m) (by first | omega | (simp; omega) | (simp [*]; omega))
  refine sq hA (q_slice Tryz.underlying69 ti25 rfl (2 ^ m) (_) hv_t31 (Rd.shp hr) rfl rfl (rfl) (by first | rfl | (simp; done) | omega) (by first | omega | (simp; omega) | (simp [*]; omega)) (by first | omega | (simp; omega) | (simp [*]; omega))) rfl fun a hA => ?_
  refine mv hA fun a hA => ?_
  refine mv hA fun a hA => ?_
  refine sq hA (q_subI rfl rfl (by omega)) rfl fun a hA => ?_
  rw [show ((i : Int) - ((2 ^ m : Nat) : Int)) = ((i - 2 ^ m : Nat) : Int) by omega] at hA
  refine sl hA (lo_call fn112 rfl (ih _ (ls.drop (2 ^ m)) (i - 2 ^ m) (hg.mono0 hH) hdd (hH.rd hO_t31) hkd (by omega))) rfl ?_
  rintro _ w ⟨v_t35, N_t35, rfl, hO_t35, hC⟩ a hA
  replace hH := HS.call0 hH hC
  clear hC
  refine asg hA fun a hA => ?_
  refine wpList_nil ?_
  refine hK9 _ _ ?_
  clear hK9
  replace hA := hA.s4 7 5 4 0
  refine wp_seq_k fun K10 hK10 => ?_
  refine wp_region_lit ?_
  refine mv hA fun a hA => ?_
  refine mv hA fun a hA => ?_
  refine mv hA fun a hA => ?_
  obtain ⟨v_t39, hv_t39, hO_t39⟩ := RdD.cut0 hr (by assumption) (2 ^ m) (by first | omega | (simp; omega) | (simp [*]; omega))
  refine sq hA (q_slice Tryz.underlying69 ti25 rfl (0) (2 ^ m) hv_t39 (Rd.shp hr) rfl rfl (rfl) (rfl) (by first | omega | (simp; omega) | (simp [*]; omega)) (by first | omega | (simp; omega) | (simp [*]; omega))) rfl fun a hA => ?_
  refine sl hA (lo_call fn54 rfl (refrt_any m (by omega) _ (ls.take (2 ^ m)) (hg.mono0 hH) hdt (hH.rd hO_t39) hkt)) rfl ?_
  rintro _ w ⟨rfl, hC⟩ a hA
  replace hH := HS.call0 hH hC
  clear hC
  refine sl hA (lo_buildD (ls := [_]) hH Tryz.underlying69 ti25 rfl rfl rfl (by decide) (by decide) (by first | assumption | exact Dg.one (by first | assumption | (rw [List.length_map]; assumption) | rfl | exact sha_length _ | (simp; done) | (simp [*]; done) | omega) | exact Dg.two (by first | assumption | (rw [List.length_map]; assumption) | rfl | exact sha_length _ | (simp; done) | (simp [*]; done) | omega) (by first | assumption | (rw [List.length_map]; assumption) | rfl | exact sha_length _ | (simp; done) | (simp [*]; done) | omega))) rfl ?_
  clear hH; rintro v_t41 w ⟨N_t41, hO_t41, hH⟩ a hA
  replace hH := hH.pick [1, 0] (Hs' := [_, _]) rfl
  refine sl hA (lo_appD hH Tryz.underlying69 Tryz.underlying69 (.inl rfl) ti25 rfl rfl rfl hO_t35 (Own.rd0 hO_t41 hH 1 rfl) (by first | omega | (simp; omega)) (by first | omega | (simp; omega))) rfl ?_
  clear hH; rintro v_t42 w ⟨N_t42, hO_t42, hH⟩ a hA
  refine asg hA fun a hA => ?_
  refine wpList_nil ?_
  refine hK10 _ _ ?_
  clear hK10
  replace hA := hA.s1 4
  refine wp_ret ?_
  refine post_ret hA (res_1 rfl hA rfl) ?_
  replace hH := hH.pick [0] (Hs' := [_]) rfl
  exact ⟨_, rfl, v_t42, N_t42, rfl, by rw [pth_r hls (by omega) hi]; exact hO_t42, hH⟩

theorem refpth_any {lv : Nat} : ∀ (m : Nat), m ≤ 10 → ∀ {w0 : World} (v : Value) (ls : List Bs) (i : Nat), Gl (lv + 2) w0 → Dg ls → RdD [] w0 v ls → ls.length = 2 ^ m → i < 2 ^ m → Calls Tryz.prog 112 #[v, I i] w0 (Ret fun r w' => ∃ v' N, v' = r ∧ OwD 25 v' (pth ls i m) N ∧ HS [] w0 w' [N])
  | 0, _, _, v, ls, i, _, hd, hr, hl, _ => refpth_zero v ls hd hr i hl
  | m + 1, hm, _, v, ls, i, hg, hd, hr, hl, hi => refpth_step hg m (refpth_any m (by omega)) v ls hd hr i hl (by omega) hi
theorem refpath_any {w0 : World} {lv : Nat} (hg : Gl (lv + 2) w0) (v : Value) (ls : List Bs) (hd : Dg ls) (hr : RdD [] w0 v ls) (m i : Nat) (hm : m ≤ 10) (hls : ls.length = 2 ^ m) (hi : i < 2 ^ m) :
    Calls Tryz.prog 79 #[v, I i] w0 (Ret fun r w' => ∃ v' N, r = .tuple #[v', I 0] ∧ OwD 25 v' (pth ls i m) N ∧ HS [] w0 w' [N]) := by
 have hH := HS.start w0
 refine start (n := 23) (E := [(0, _), (1, _)]) Tryz.func79 rfl rfl rfl (args_look rfl) ?_
 intro a hA
 refine wp_seq_k fun K1 hK1 => ?_
 refine wp_region_lit ?_
 refine asg hA fun a hA => ?_
 refine asg hA fun a hA => ?_
 refine wpList_nil ?_
 refine hK1 _ _ ?_
 clear hK1
 refine wp_seq_k fun K2 hK2 => ?_
 refine wp_seq_k fun K3 hK3 => ?_
 refine wp_region_lit ?_
 refine mv hA fun a hA => ?_
 refine sq hA (q_len Tryz.underlying69 rfl (Rd.shp hr)) rfl fun a hA => ?_
 rw [hls] at hA
 refine sl hA (lo_call fn53 rfl (refright_yes m hm)) rfl ?_
 rintro _ w ⟨rfl, hC⟩ a hA
 replace hH := HS.call0 hH hC
 clear hC
 refine sq hA (q_not rfl) rfl fun a hA => ?_
 refine mv hA fun a hA => ?_
 refine gq hA rfl rfl (q_move rfl) rfl fun a hA => ?_
 refine gq hA rfl rfl (Runs.bf (q_lssI (n := 0) rfl rfl) (by omega)) rfl fun a hA => ?_
 refine sq hA (q_pick_f rfl rfl) rfl fun a hA => ?_
 refine mv hA fun a hA => ?_
 refine gq hA rfl rfl (q_move rfl) rfl fun a hA => ?_
 refine gq hA rfl rfl (q_move rfl) rfl fun a hA => ?_
 refine gq hA rfl rfl (q_len Tryz.underlying69 rfl (Rd.shp hr)) rfl fun a hA => ?_
 refine gq hA rfl rfl (Runs.bf (q_geqI rfl rfl) (by omega)) rfl fun a hA => ?_
 refine sq hA (q_pick_f rfl rfl) rfl fun a hA => ?_
 refine wpList_nil ?_
 refine hK3 _ _ ?_
 clear hK3
 replace hA := hA.s5 19 5 4 0 1
 refine cond_f hA rfl ?_
 refine wp_skip ?_
 refine hK2 _ _ ?_
 clear hK2
 replace hA := hA.s4 5 4 0 1
 refine wp_seq_k fun K4 hK4 => ?_
 refine wp_region_lit ?_
 refine mv hA fun a hA => ?_
 refine mv hA fun a hA => ?_
 refine sl hA (lo_call fn112 rfl (refpth_any m hm _ ls i (hg.mono0 hH) hd (hH.rd hr) hls hi)) rfl ?_
 rintro _ w ⟨v_t22, N_t22, rfl, hO_t22, hC⟩ a hA
 replace hH := HS.call0 hH hC
 clear hC
 refine asg hA fun a hA => ?_
 refine asg hA fun a hA => ?_
 refine wpList_nil ?_
 refine hK4 _ _ ?_
 clear hK4
 replace hA := hA.s2 5 4
 refine wp_ret ?_
 refine post_ret hA (res_2 rfl hA rfl rfl) ?_
 exact ⟨_, rfl, v_t22, N_t22, rfl, hO_t22, hH⟩

theorem path_any {w0 : World} {lv : Nat} (hg : Gl lv w0) (v : Value) (ls : List Bs) (hd : Dg ls) (hr : RdD [] w0 v ls) (m i : Nat) (hm : m ≤ 10) (hls : ls.length = 2 ^ m) (hi : i < 2 ^ m) :
    Calls Tryz.prog 69 #[v, I i] w0 (Ret fun r w' => ∃ v' N, r = .tuple #[v', I 0] ∧ OwD 25 v' (pth ls i m) N ∧ HS [] w0 w' [N]) := by
 have hH := HS.start w0
 refine start (n := 39) (E := [(0, _), (1, _)]) Tryz.func69 rfl rfl rfl (args_look rfl) ?_
 intro a hA
 have e0 : (i : Int) = ((i / 2 ^ 0 : Nat) : Int) := by simp
 have hpm := pow_le hm
 refine wp_seq_k fun K1 hK1 => ?_
 refine wp_region_lit ?_
 refine asg hA fun a hA => ?_
 refine asg hA fun a hA => ?_
 refine wpList_nil ?_
 refine hK1 _ _ ?_
 clear hK1
 refine wp_seq_k fun K2 hK2 => ?_
 refine wp_seq_k fun K3 hK3 => ?_
 refine wp_region_lit ?_
 refine mv hA fun a hA => ?_
 refine sq hA (q_len Tryz.underlying69 rfl (Rd.shp hr)) rfl fun a hA => ?_
 rw [hls] at hA
 refine sl hA (lo_call fn91 rfl (right_any m hm)) rfl ?_
 rintro _ w ⟨rfl, hC⟩ a hA
 replace hH := HS.call0 hH hC
 clear hC
 refine sq hA (q_not rfl) rfl fun a hA => ?_
 refine mv hA fun a hA => ?_
 refine gq hA rfl rfl (q_move rfl) rfl fun a hA => ?_
 refine gq hA rfl rfl (Runs.bf (q_lssI (n := 0) rfl rfl) (by omega)) rfl fun a hA => ?_
 refine sq hA (q_pick_f rfl rfl) rfl fun a hA => ?_
 refine mv hA fun a hA => ?_
 refine gq hA rfl rfl (q_move rfl) rfl fun a hA => ?_
 refine gq hA rfl rfl (q_move rfl) rfl fun a hA => ?_
 refine gq hA rfl rfl (q_len Tryz.underlying69 rfl (Rd.shp hr)) rfl fun a hA => ?_
 refine gq hA rfl rfl (Runs.bf (q_geqI rfl rfl) (by omega)) rfl fun a hA => ?_
 refine sq hA (q_pick_f rfl rfl) rfl fun a hA => ?_
 refine wpList_nil ?_
 refine hK3 _ _ ?_
 clear hK3
 replace hA := hA.s5 21 5 4 0 1
 refine cond_f hA rfl ?_
 refine wp_skip ?_
 refine hK2 _ _ ?_
 clear hK2
 replace hA := hA.s4 5 4 0 1
 refine wp_seq_k fun K4 hK4 => ?_
 refine wp_region_lit ?_
 refine asg hA fun a hA => ?_
 refine wpList_nil ?_
 refine hK4 _ _ ?_
 clear hK4
 refine wp_seq_k fun K5 hK5 => ?_
 refine wp_seq_k fun K6 hK6 => ?_
 refine wp_region_lit ?_
 refine mv hA fun a hA => ?_
 refine asg hA fun a hA => ?_
 refine wpList_nil ?_
 refine hK6 _ _ ?_
 clear hK6
 replace hA := hA.s5 7 6 5 4 1
 refine wp_block ?_
 rw [e0] at hA
 replace hH := hH.nilFront
 replace hH := hH.nilFront
 replace hH := hH.pick [1, 0] (Hs' := [_, _]) rfl
 refine wp_loop_ghost (fun gm a w => ∃ k : Nat, ∃ v_o : Value, ∃ v_l : Value, ∃ N_o : Hl, ∃ N_l : Hl, At 39 [(7, v_l), (6, v_o), (5, I 0), (4, (.slice none 0 0)), (1, I ((i / 2 ^ k : Nat) : Int))] a ∧ HS [] w0 w ([N_o, N_l]) ∧ (k ≤ m) ∧ (OwD 25 v_o (pth ls i k) N_o) ∧ (RdOr w0 25 32 v_l (lvls ls k).length (dc (lvls ls k)) N_l) ∧ gm = m - k) (m - (0)) ⟨0, (.slice none 0 0), v, [], [], hA.sub ⟨rfl, rfl, rfl, rfl, rfl, trivial⟩, hH, by omega, by exact Own.nil _ _, by exact .inl ⟨rfl, hr⟩, rfl⟩ ?_
 clear hA hH
 rintro gm a w ⟨k, v_o, v_l, N_o, N_l, hA, hH, hk, hO_o, hR_l, rfl⟩
 have hlk := lvls_length hls hk
 have hlkd := lvls_dg hd k
 have hpk := pow_le (m := m - k) (by omega)
 obtain ⟨x, hx⟩ : ∃ x, x = i / 2 ^ k := ⟨_, rfl⟩
 rw [← hx] at hA
 have hxi : x ≤ i := by rw [hx]; exact Nat.div_le_self _ _
 refine wp_seq_k fun K7 hK7 => ?_
 refine wp_seq_k fun K8 hK8 => ?_
 refine wp_region_lit ?_
 refine mv hA fun a hA => ?_
 refine sq hA (q_len Tryz.underlying69 rfl (RdOr.shp hR_l)) rfl fun a hA => ?_
 refine sq hA (q_gtrI (n := 1) rfl rfl) rfl fun a hA => ?_
 refine wpList_nil ?_
 refine hK8 _ _ ?_
 clear hK8
 refine cond_d hA rfl (fun hc25 => ?_) (fun hc25 => ?_)
 ·skip
  have hkm : k < m := by rcases Nat.lt_or_ge k m with h | h; exact h; exfalso; rw [show m - k = 0 by omega] at hlk; omega
  have hxl := idx_lt hi hkm
  rw [← hx] at hxl
  have hxd := hlkd.getD (i := x ^^^ 1) (by omega)
  refine wp_skip ?_
  refine hK7 _ _ ?_
  clear hK7
  refine wp_seq_k fun K9 hK9 => ?_
  refine wp_block ?_
  refine wp_seq_k fun K10 hK10 => ?_
  refine wp_region_lit ?_
  refine mv hA fun a hA => ?_
  refine mv hA fun a hA => ?_
  refine mv hA fun a hA => ?_
  refine sq hA (q_xorI (b := 1) rfl rfl (by omega) (by omega)) rfl fun a hA => ?_
  refine sq hA (q_idxk (x ^^^ 1) Tryz.underlying69 ti25 rfl rfl (by first | omega | rfl) (RdOr.shp hR_l) (by first | omega | (simp; done) | (simp; omega) | (rw [List.length_map]; assumption) | assumption | rfl | (simp [*]; done) | (simp [*]; omega))) rfl fun a hA => ?_
  refine sq hA (q_loadRA (i := x ^^^ 1) Tryz.underlying25 rfl ti25 rfl (RdOr.rd hR_l hH 1 rfl) (by first | omega | (simp; done) | (simp; omega) | (rw [List.length_map]; assumption) | assumption | rfl | (simp [*]; done) | (simp [*]; omega)) _ (dc_at (by assumption) (by first | omega | (simp; done) | (simp; omega) | (rw [List.length_map]; assumption) | assumption | rfl | (simp [*]; done) | (simp [*]; omega)))) rfl fun a hA => ?_
  refine sl hA (lo_buildD (ls := [_]) hH Tryz.underlying69 ti25 rfl rfl rfl (by decide) (by decide) (by first | assumption | exact Dg.one (by first | assumption | (rw [List.length_map]; assumption) | rfl | exact sha_length _ | (simp; done) | (simp [*]; done) | omega) | exact Dg.two (by first | assumption | (rw [List.length_map]; assumption) | rfl | exact sha_length _ | (simp; done) | (simp [*]; done) | omega) (by first | assumption | (rw [List.length_map]; assumption) | rfl | exact sha_length _ | (simp; done) | (simp [*]; done) | omega))) rfl ?_
  clear hH; rintro v_t34 w ⟨N_t34, hO_t34, hH⟩ a hA
  replace hH := hH.pick [1, 0, 2] (Hs' := [_, _, _]) rfl
  refine sl hA (lo_appD hH Tryz.underlying69 Tryz.underlying69 (.inl rfl) ti25 rfl rfl rfl hO_o (Own.rd0 hO_t34 hH 1 rfl) (by first | omega | (simp; omega)) (by first | omega | (simp; omega))) rfl ?_
  clear hH; rintro v_t35 w ⟨N_t35, hO_t35, hH⟩ a hA
  refine asg hA fun a hA => ?_
  refine wpList_nil ?_
  refine hK10 _ _ ?_
  clear hK10
  refine wp_region_lit ?_
  refine mv hA fun a hA => ?_
  refine sq hA (q_shrI (n := 1) 2 rfl rfl (by decide) (by decide) (by omega)) rfl fun a hA => ?_
  rw [show ((x : Nat) : Int) / 2 = ((i / 2 ^ (k + 1) : Nat) : Int) by rw [hx]; exact half_pow i k] at hA
  refine asg hA fun a hA => ?_
  refine wpList_nil ?_
  refine block_normal ?_
  refine hK9 _ _ ?_
  clear hK9
  refine wp_region_lit ?_
  refine mv hA fun a hA => ?_
  refine sl hA (lo_call fn92 rfl (level_any (hg.mono0 hH) v_l (lvls ls k) (lvls_dg hd k) (RdOr.rd hR_l hH 2 rfl) (by omega))) rfl ?_
  rintro _ w ⟨v_t27, N_t27, rfl, hO_t27, hC⟩ a hA
  replace hH := HS.call0 hH hC
  clear hC
  refine asg hA fun a hA => ?_
  refine wpList_nil ?_
  replace hH := hH.pick [1, 0, 2, 3] (Hs' := [_, _, _, _]) rfl
  replace hH := hH.pick [0, 1] (Hs' := [_, _]) rfl
  exact ⟨_, by omega, k + 1, v_t35, v_t27, N_t35, N_t27, hA.sub ⟨rfl, rfl, rfl, rfl, rfl, trivial⟩, hH, by omega, by (rw [pth, ← hx]; exact hO_t35), by exact .inr hO_t27, rfl⟩
 ·skip
  have hke : k = m := by have := pow_one (k := m - k) (by omega); omega
  refine wp_exit ?_
  refine then_exit ?_
  refine then_exit ?_
  refine exit_here ?_
  refine hK5 _ _ ?_
  clear hK5
  replace hA := hA.s3 6 5 4
  refine wp_seq_k fun K11 hK11 => ?_
  refine wp_region_lit ?_
  refine mv hA fun a hA => ?_
  refine asg hA fun a hA => ?_
  refine asg hA fun a hA => ?_
  refine wpList_nil ?_
  refine hK11 _ _ ?_
  clear hK11
  replace hA := hA.s2 5 4
  refine wp_ret ?_
  refine post_ret hA (res_2 rfl hA rfl rfl) ?_
  replace hH := hH.pick [0] (Hs' := [_]) rfl
  exact ⟨_, rfl, v_o, N_o, rfl, hke ▸ hO_o, hH⟩

end Go.Proofs.YtnnkgdijaekcfaaGreatDoor
