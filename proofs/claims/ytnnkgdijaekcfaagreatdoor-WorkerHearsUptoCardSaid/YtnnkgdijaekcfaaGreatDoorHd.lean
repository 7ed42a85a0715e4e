/- Layer 7 (keys): what a key does. -/
import Derived.Test.YtnnkgdijaekcfaaGreatDoorHa
import Derived.Test.YtnnkgdijaekcfaaGreatDoorMzc
namespace Go.Proofs.YtnnkgdijaekcfaaGreatDoor
open Go
set_option linter.unusedVariables false
set_option linter.unusedSimpArgs false
set_option maxRecDepth 100000

theorem seedf_any {w0 : World} {lv : Nat} (hg : Gl lv w0) (s : Bs) (hs : s.length = 32) (i b_s : Nat) (hSd : RdD [] w0 (.slice (some ⟨b_s, 0, none⟩) 1 1) [s]) :
    Calls Tryz.prog 48 #[I i, (.pointer (some ⟨b_s, 0, none⟩))] w0 (Ret fun r w' => r = .agg ((seedK s i).map B8).toArray ∧ HS [] w0 w' []) := by
 have hH := HS.start w0
 refine start (n := 7) (E := [(0, _), (1, _)]) Tryz.func48 rfl rfl rfl (args_look rfl) ?_
 intro a hA
 have hDs : Dg [s] := Dg.one hs
 refine wp_seq_k fun K1 hK1 => ?_
 refine wp_region_lit ?_
 refine sl hA (lo_allocA hH ti25) rfl ?_
 clear hH; rintro _ w ⟨b_t3, rfl, hH⟩ a hA
 refine wpList_nil ?_
 refine hK1 _ _ ?_
 clear hK1
 refine wp_seq_k fun K2 hK2 => ?_
 refine wp_region_lit ?_
 refine sq hA (q_loadRA (i := 0) Tryz.underlying25 rfl ti25 rfl (hH.rd hSd) (by first | omega | (simp; done) | (simp; omega) | (rw [List.length_map]; assumption) | assumption | rfl | (simp [*]; done) | (simp [*]; omega)) _ (dc_at (by assumption) (by first | omega | (simp; done) | (simp; omega) | (rw [List.length_map]; assumption) | assumption | rfl | (simp [*]; done) | (simp [*]; omega)))) rfl fun a hA => ?_
 rw [show [s].getD 0 [] = s from rfl] at hA
 refine mv hA fun a hA => ?_
 refine sl hA (lo_call fn49 rfl (seed_any (hg.mono0 hH) _ _ _ (by first | assumption | (rw [List.length_map]; assumption) | rfl | exact sha_length _ | (simp; done) | (simp [*]; done) | omega) (by decide))) rfl ?_
 rintro _ w ⟨rfl, hC⟩ a hA
 replace hH := HS.call0 hH hC
 clear hC
 refine s0 hA (lo_storeAm hH ti25 rfl rfl (by first | assumption | (rw [List.length_map]; assumption) | rfl | exact sha_length _ | (simp; done) | (simp [*]; done) | omega) (by first | assumption | (rw [List.length_map]; assumption) | rfl | exact sha_length _ | (simp; done) | (simp [*]; done) | omega) (one_B8 _)) ?_
 clear hH; rintro _ w hH
 refine wpList_nil ?_
 refine hK2 _ _ ?_
 clear hK2
 replace hA := hA.s1 3
 refine wp_ret ?_
 refine post_ret hA (res_c rfl hA rfl (resW hH 0 rfl Tryz.underlying25 rfl ti25 (by first | (simp; done) | (rw [List.length_map]; exact macV_length _ _)))) ?_
 replace hH := hH.pick [] (Hs' := []) rfl
 exact ⟨_, rfl, rfl, hH⟩

theorem public7_any {w0 : World} (b_k : Nat) (f lv : Value) (P : Bs) (hP : P.length = 32) (n x q : Nat) (hs : Shp lv q) (hx : x ≤ q) (hq : q ≤ 64) (hH : HS [b_k] w0 w0 [[(b_k, Obj.cells (keyC f lv P n x).toArray 107 (0, 0))]]) :
    Calls Tryz.prog 22 #[(.pointer (some ⟨b_k, 0, none⟩))] w0 (Ret fun r w' => r = (.agg ((P).map B8).toArray) ∧ HS [b_k] w0 w' [[(b_k, Obj.cells (keyC f lv P n x).toArray 107 (0, 0))]]) := by
 refine start (n := 10) (E := [(0, _)]) Tryz.func22 rfl rfl rfl (args_look rfl) ?_
 intro a hA
 refine wp_seq_k fun K1 hK1 => ?_
 refine wp_region_lit ?_
 refine sl hA (lo_allocA hH ti25) rfl ?_
 clear hH; rintro _ w ⟨b_t2, rfl, hH⟩ a hA
 refine wpList_nil ?_
 refine hK1 _ _ ?_
 clear hK1
 refine wp_seq_k fun K2 hK2 => ?_
 refine wp_seq_k fun K3 hK3 => ?_
 refine wp_region_lit ?_
 refine mv hA fun a hA => ?_
 refine sq hA (q_ptrNil Tryz.underlying59 rfl rfl) rfl fun a hA => ?_
 refine wpList_nil ?_
 refine hK3 _ _ ?_
 clear hK3
 replace hA := hA.s3 4 2 0
 refine cond_f hA rfl ?_
 refine wp_skip ?_
 refine hK2 _ _ ?_
 clear hK2
 replace hA := hA.s2 2 0
 refine wp_seq_k fun K4 hK4 => ?_
 refine wp_region_lit ?_
 refine mv hA fun a hA => ?_
 refine sq hA (q_nilCheck rfl) rfl fun a hA => ?_
 refine sq hA (q_fld 2 Tryz.underlying107 rfl rfl ti25 rfl) rfl fun a hA => ?_
 refine sq hA (q_loadBA hH 1 rfl (List.mem_singleton.2 rfl) Tryz.underlying25 rfl ti25 rfl _ (keyC_pub hP) (by simp [hP])) rfl fun a hA => ?_
 refine s0 hA (lo_storeAm hH ti25 rfl rfl (by first | assumption | (rw [List.length_map]; assumption) | rfl | exact sha_length _ | (simp; done) | (simp [*]; done) | omega) (by first | assumption | (rw [List.length_map]; assumption) | rfl | exact sha_length _ | (simp; done) | (simp [*]; done) | omega) (one_B8 _)) ?_
 clear hH; rintro _ w hH
 refine wpList_nil ?_
 refine hK4 _ _ ?_
 clear hK4
 replace hA := hA.s1 2
 refine wp_ret ?_
 refine post_ret hA (res_c rfl hA rfl (resW hH 0 rfl Tryz.underlying25 rfl ti25 (by first | assumption | (rw [List.length_map]; assumption) | rfl | exact sha_length _ | (simp; done) | (simp [*]; done) | omega))) ?_
 replace hH := hH.pick [1, 0] (Hs' := [_, _]) rfl
 replace hH := hH.pick [0] (Hs' := [_]) rfl
 exact ⟨_, rfl, rfl, hH⟩

theorem next7_any {w0 : World} (b_k : Nat) (f lv : Value) (P : Bs) (hP : P.length = 32) (n x q : Nat) (hs : Shp lv q) (hx : x ≤ q) (hq : q ≤ 64) (hH : HS [b_k] w0 w0 [[(b_k, Obj.cells (keyC f lv P n x).toArray 107 (0, 0))]]) :
    Calls Tryz.prog 28 #[(.pointer (some ⟨b_k, 0, none⟩))] w0 (Ret fun r w' => r = I x ∧ HS [b_k] w0 w' [[(b_k, Obj.cells (keyC f lv P n x).toArray 107 (0, 0))]]) := by
 refine start (n := 9) (E := [(0, _)]) Tryz.func28 rfl rfl rfl (args_look rfl) ?_
 intro a hA
 refine wp_seq_k fun K1 hK1 => ?_
 refine wp_region_lit ?_
 refine asg hA fun a hA => ?_
 refine wpList_nil ?_
 refine hK1 _ _ ?_
 clear hK1
 refine wp_seq_k fun K2 hK2 => ?_
 refine wp_seq_k fun K3 hK3 => ?_
 refine wp_region_lit ?_
 refine mv hA fun a hA => ?_
 refine sq hA (q_ptrNil Tryz.underlying59 rfl rfl) rfl fun a hA => ?_
 refine wpList_nil ?_
 refine hK3 _ _ ?_
 clear hK3
 replace hA := hA.s3 4 2 0
 refine cond_f hA rfl ?_
 refine wp_skip ?_
 refine hK2 _ _ ?_
 clear hK2
 replace hA := hA.s2 2 0
 refine wp_seq_k fun K4 hK4 => ?_
 refine wp_region_lit ?_
 refine mv hA fun a hA => ?_
 refine sq hA (q_nilCheck rfl) rfl fun a hA => ?_
 refine sq hA (q_fld 35 Tryz.underlying107 rfl rfl ti3 rfl) rfl fun a hA => ?_
 refine sq hA (q_loadB hH 0 rfl (List.mem_singleton.2 rfl) Tryz.underlying3 rfl rfl (keyC_35 hP)) rfl fun a hA => ?_
 refine asg hA fun a hA => ?_
 refine wpList_nil ?_
 refine hK4 _ _ ?_
 clear hK4
 replace hA := hA.s1 2
 refine wp_ret ?_
 refine post_ret hA (res_1 rfl hA rfl) ?_
 exact ⟨_, rfl, rfl, hH⟩

theorem left7_any {w0 : World} (b_k : Nat) (f lv : Value) (P : Bs) (hP : P.length = 32) (n x q : Nat) (hs : Shp lv q) (hx : x ≤ q) (hq : q ≤ 64) (hH : HS [b_k] w0 w0 [[(b_k, Obj.cells (keyC f lv P n x).toArray 107 (0, 0))]]) :
    Calls Tryz.prog 29 #[(.pointer (some ⟨b_k, 0, none⟩))] w0 (Ret fun r w' => r = I ((q - x : Nat) : Int) ∧ HS [b_k] w0 w' [[(b_k, Obj.cells (keyC f lv P n x).toArray 107 (0, 0))]]) := by
 refine start (n := 15) (E := [(0, _)]) Tryz.func29 rfl rfl rfl (args_look rfl) ?_
 intro a hA
 refine wp_seq_k fun K1 hK1 => ?_
 refine wp_region_lit ?_
 refine asg hA fun a hA => ?_
 refine wpList_nil ?_
 refine hK1 _ _ ?_
 clear hK1
 refine wp_seq_k fun K2 hK2 => ?_
 refine wp_seq_k fun K3 hK3 => ?_
 refine wp_region_lit ?_
 refine mv hA fun a hA => ?_
 refine sq hA (q_ptrNil Tryz.underlying59 rfl rfl) rfl fun a hA => ?_
 refine wpList_nil ?_
 refine hK3 _ _ ?_
 clear hK3
 replace hA := hA.s3 4 2 0
 refine cond_f hA rfl ?_
 refine wp_skip ?_
 refine hK2 _ _ ?_
 clear hK2
 replace hA := hA.s2 2 0
 refine wp_seq_k fun K4 hK4 => ?_
 refine any_go mixed (fun _ => true) hH ?_
 clear hH; intro w hH
 have hS := hH
 refine any_l 11 ?_
 refine p0 hA 0 1 rfl (fun w => (q_move rfl)) fun a hA => ?_
 refine p0 hA 1 3 rfl (fun w => (q_nilCheck rfl)) fun a hA => ?_
 refine p0 hA 2 7 rfl (fun w => (q_fld 1 Tryz.underlying107 rfl rfl ti69 rfl)) fun a hA => ?_
 refine r0 hA 3 15 rfl hS (fun w hH => (q_loadB hH 0 rfl (List.mem_singleton.2 rfl) Tryz.underlying69 rfl rfl rfl)) fun a hA => ?_
 refine p0 hA 4 31 rfl (fun w => (q_len Tryz.underlying69 rfl hs)) fun a hA => ?_
 refine p0 hA 5 63 rfl (fun w => (q_move rfl)) fun a hA => ?_
 refine p0 hA 6 127 rfl (fun w => (q_nilCheck rfl)) fun a hA => ?_
 refine p0 hA 7 255 rfl (fun w => (q_fld 35 Tryz.underlying107 rfl rfl ti3 rfl)) fun a hA => ?_
 refine r0 hA 8 511 rfl hS (fun w hH => (q_loadB hH 0 rfl (List.mem_singleton.2 rfl) Tryz.underlying3 rfl rfl (keyC_35 hP))) fun a hA => ?_
 refine p0 hA 9 1023 rfl (fun w => (q_subI rfl rfl (by omega))) fun a hA => ?_
 refine p0 hA 10 2047 rfl (fun w => (q_assign rfl)) fun a hA => ?_
 refine a_end (by kernel_rfl) ?_ _
 refine hK4 _ _ ?_
 clear hK4
 replace hA := hA.s1 2
 refine wp_ret ?_
 refine post_ret hA (res_1 rfl hA rfl) ?_
 exact ⟨_, rfl, by congr 1; omega, hH⟩

theorem skip7_any {w0 : World} (b_k : Nat) (f lv : Value) (P : Bs) (hP : P.length = 32) (n x q : Nat) (hs : Shp lv q) (hx : x ≤ q) (hq : q ≤ 64) (to : Int) (hH : HS [b_k] w0 w0 [[(b_k, Obj.cells (keyC f lv P n x).toArray 107 (0, 0))]]) :
    Calls Tryz.prog 30 #[(.pointer (some ⟨b_k, 0, none⟩)), I to] w0 (Ret fun r w' => r = I (skT q x to).1 ∧ HS [b_k] w0 w' [[(b_k, Obj.cells (keyC f lv P n (skT q x to).2).toArray 107 (0, 0))]]) := by
 refine start (n := 28) (E := [(0, _), (1, _)]) Tryz.func30 rfl rfl rfl (args_look rfl) ?_
 intro a hA
 refine wp_seq_k fun K1 hK1 => ?_
 refine wp_region_lit ?_
 refine asg hA fun a hA => ?_
 refine wpList_nil ?_
 refine hK1 _ _ ?_
 clear hK1
 refine wp_seq_k fun K2 hK2 => ?_
 refine wp_block ?_
 refine wp_seq_k fun K3 hK3 => ?_
 refine wp_region_lit ?_
 refine mv hA fun a hA => ?_
 refine sq hA (q_ptrNil Tryz.underlying59 rfl rfl) rfl fun a hA => ?_
 refine asg hA fun a hA => ?_
 refine wpList_nil ?_
 refine hK3 _ _ ?_
 clear hK3
 replace hA := hA.s4 5 4 0 1
 refine cond_f hA rfl ?_
 refine wp_seq_k fun K4 hK4 => ?_
 refine wp_region_lit ?_
 refine mv hA fun a hA => ?_
 refine mv hA fun a hA => ?_
 refine sq hA (q_nilCheck rfl) rfl fun a hA => ?_
 refine sq hA (q_fld 35 Tryz.underlying107 rfl rfl ti3 rfl) rfl fun a hA => ?_
 refine sq hA (q_loadB hH 0 rfl (List.mem_singleton.2 rfl) Tryz.underlying3 rfl rfl (keyC_35 hP)) rfl fun a hA => ?_
 refine sq hA (q_lssI rfl rfl) rfl fun a hA => ?_
 refine hA.spl (fun hs14 hA => ?_) (fun hs14 hA => ?_)
 ·skip
  refine mv hA fun a hA => ?_
  refine gs hA rfl rfl rfl rfl fun a hA => ?_
  refine gs hA rfl rfl rfl rfl fun a hA => ?_
  refine gs hA rfl rfl rfl rfl fun a hA => ?_
  refine gs hA rfl rfl rfl rfl fun a hA => ?_
  refine gs hA rfl rfl rfl rfl fun a hA => ?_
  refine gs hA rfl rfl rfl rfl fun a hA => ?_
  refine gs hA rfl rfl rfl rfl fun a hA => ?_
  refine sq hA (q_pick_t rfl rfl) rfl fun a hA => ?_
  refine asg hA fun a hA => ?_
  refine wpList_nil ?_
  refine hK4 _ _ ?_
  clear hK4
  replace hA := hA.s4 8 4 0 1
  refine cond_t hA rfl ?_
  refine wp_seq_k fun K5 hK5 => ?_
  refine wp_region_lit ?_
  refine asg hA fun a hA => ?_
  refine wpList_nil ?_
  refine hK5 _ _ ?_
  clear hK5
  replace hA := hA.s3 4 0 1
  refine wp_ret ?_
  refine block_ret ?_
  refine then_ret ?_
  refine post_ret hA (res_1 rfl hA rfl) ?_
  first | exact ⟨_, rfl, by rw [skT_no (by omega)]; rfl, by rw [skT_no (by omega)]; exact hH⟩ | exact ⟨_, rfl, by rw [skT_ok (by omega) (by omega)]; rfl, by rw [skT_ok (by omega) (by omega)]; rw [show to = ((to.toNat : Nat) : Int) by omega] at hH; exact hH⟩
 ·skip
  refine mv hA fun a hA => ?_
  refine gq hA rfl rfl (q_move rfl) rfl fun a hA => ?_
  refine gq hA rfl rfl (q_move rfl) rfl fun a hA => ?_
  refine gq hA rfl rfl (q_nilCheck rfl) rfl fun a hA => ?_
  refine gq hA rfl rfl (q_fld 1 Tryz.underlying107 rfl rfl ti69 rfl) rfl fun a hA => ?_
  refine gq hA rfl rfl (q_loadB hH 0 rfl (List.mem_singleton.2 rfl) Tryz.underlying69 rfl rfl rfl) rfl fun a hA => ?_
  refine gq hA rfl rfl (q_len Tryz.underlying69 rfl hs) rfl fun a hA => ?_
  refine gq hA rfl rfl (q_gtrI rfl rfl) rfl fun a hA => ?_
  refine sq hA (q_pick_f rfl rfl) rfl fun a hA => ?_
  refine asg hA fun a hA => ?_
  refine wpList_nil ?_
  refine hK4 _ _ ?_
  clear hK4
  replace hA := hA.s4 8 4 0 1
  refine cond_d hA rfl (fun hc8 => ?_) (fun hc8 => ?_)
  ·skip
   refine wp_seq_k fun K6 hK6 => ?_
   refine wp_region_lit ?_
   refine asg hA fun a hA => ?_
   refine wpList_nil ?_
   refine hK6 _ _ ?_
   clear hK6
   replace hA := hA.s3 4 0 1
   refine wp_ret ?_
   refine block_ret ?_
   refine then_ret ?_
   refine post_ret hA (res_1 rfl hA rfl) ?_
   first | exact ⟨_, rfl, by rw [skT_no (by omega)]; rfl, by rw [skT_no (by omega)]; exact hH⟩ | exact ⟨_, rfl, by rw [skT_ok (by omega) (by omega)]; rfl, by rw [skT_ok (by omega) (by omega)]; rw [show to = ((to.toNat : Nat) : Int) by omega] at hH; exact hH⟩
  ·skip
   refine wp_skip ?_
   refine block_normal ?_
   refine hK2 _ _ ?_
   clear hK2
   replace hA := hA.s3 4 0 1
   refine wp_seq_k fun K7 hK7 => ?_
   refine wp_region_lit ?_
   refine mv hA fun a hA => ?_
   refine mv hA fun a hA => ?_
   refine sq hA (q_nilCheck rfl) rfl fun a hA => ?_
   refine sq hA (q_fld 35 Tryz.underlying107 rfl rfl ti3 rfl) rfl fun a hA => ?_
   refine s0 hA (lo_store1 hH ti3 rfl rfl (by rw [keyC_length hP]; decide) rfl) ?_
   clear hH; rintro _ w hH
   rw [keyC_set35 hP] at hH
   refine wpList_nil ?_
   refine hK7 _ _ ?_
   clear hK7
   replace hA := hA.s1 4
   refine wp_seq_k fun K8 hK8 => ?_
   refine wp_region_lit ?_
   refine asg hA fun a hA => ?_
   refine wpList_nil ?_
   refine hK8 _ _ ?_
   clear hK8
   refine wp_ret ?_
   refine post_ret hA (res_1 rfl hA rfl) ?_
   first | exact ⟨_, rfl, by rw [skT_no (by omega)]; rfl, by rw [skT_no (by omega)]; exact hH⟩ | exact ⟨_, rfl, by rw [skT_ok (by omega) (by omega)]; rfl, by rw [skT_ok (by omega) (by omega)]; rw [show to = ((to.toNat : Nat) : Int) by omega] at hH; exact hH⟩

end Go.Proofs.YtnnkgdijaekcfaaGreatDoor
