/- Layer 20 (result): the laws ResultTexts, ResultChecks, ResultApart, ResultSigned. -/
import Derived.Test.YtnnkgdijaekcfaaDoorIc
namespace Go.Proofs.YtnnkgdijaekcfaaDoor
open Go
set_option linter.unusedVariables false
set_option linter.unusedSimpArgs false
set_option maxRecDepth 100000

set_option maxHeartbeats 1000000 in
theorem resultTexts_any {w0 : World} {lv : Nat} (hg : Gl lv w0) (jb at_ : Int) (hj9 : jb ≤ 9223372036854775807) (ha9 : at_ ≤ 9223372036854775807) (v : Value) (l : Bs) (hr : By [] w0 v l) (hl : l.length ≤ 1048576) (s : Bs) (hs : s.length = 32) (tv vv : Value) (T V : Bs) (htv : By [] w0 tv T) (hvv : By [] w0 vv V) (hlT : T.length ≤ 1048576) (hlV : V.length ≤ 1048576) (ix : Int) (ua xa : Value) (A B : List Bs) (hdA : Dg A) (hdB : Dg B) (hua : RdD [] w0 ua A) (hxa : RdD [] w0 xa B) (hlA : A.length ≤ 1048576) (hlB : B.length ≤ 1048576) (hi9 : ix ≤ 9223372036854775807) :
    Calls Tryd.prog 3 #[I jb, I at_, v, (.agg ((s).map B8).toArray), (.agg #[tv, vv, I ix, ua, xa])] w0 (Ret fun r w' => r = .bool true ∧ HS [] w0 w' []) := by
 have hH := HS.start w0
 refine start (n := 42) (E := [(0, _), (1, _), (2, _), (3, _), (4, _)]) Tryd.func3 rfl rfl rfl (args_look rfl) ?_
 intro a hA
 have hx := txV_len (j := (max jb 0).toNat) (a := (max at_ 0).toNat) (v := l) (nonce := s) (by omega) (by omega) (by omega) hs
 have hel := encK_len hi9 hdA hdB
 refine wp_seq_k fun K1 hK1 => ?_
 refine wp_region_lit ?_
 refine sl hA (lo_boxA hH rfl) rfl ?_
 clear hH; rintro _ w ⟨b_t8, rfl, hH⟩ a hA
 refine sl hA (lo_boxA hH rfl) rfl ?_
 clear hH; rintro _ w ⟨b_t9, rfl, hH⟩ a hA
 refine asg hA fun a hA => ?_
 refine wpList_nil ?_
 refine hK1 _ _ ?_
 clear hK1
 replace hA := hA.s6 10 9 8 0 1 2
 refine wp_seq_k fun K2 hK2 => ?_
 refine wp_seq_k fun K3 hK3 => ?_
 refine wp_region_lit ?_
 refine mv hA fun a hA => ?_
 refine sq hA (q_len Tryd.underlying22 rfl (Rd.shp hr)) rfl fun a hA => ?_
 refine sq hA (q_gtrI (n := 300) rfl rfl) rfl fun a hA => ?_
 refine hA.spl (fun hs13 hA => ?_) (fun hs13 hA => ?_)
 ·skip
  refine mv hA fun a hA => ?_
  refine gs hA rfl rfl rfl rfl fun a hA => ?_
  refine gs hA rfl rfl rfl rfl fun a hA => ?_
  refine sq hA (q_pick_t rfl rfl) rfl fun a hA => ?_
  refine wpList_nil ?_
  refine hK3 _ _ ?_
  clear hK3
  replace hA := hA.s7 17 10 9 8 0 1 2
  refine cond_t hA rfl ?_
  refine wp_seq_k fun K4 hK4 => ?_
  refine wp_region_lit ?_
  refine sl hA (lo_call fn15 rfl (awake20_any (hg.mono0 hH))) rfl ?_
  rintro _ w ⟨rfl, hC⟩ a hA
  replace hH := HS.call0 hH hC
  clear hC
  refine asg hA fun a hA => ?_
  refine wpList_nil ?_
  refine hK4 _ _ ?_
  clear hK4
  replace hA := hA.s6 10 9 8 0 1 2
  refine wp_ret ?_
  refine then_ret ?_
  refine post_ret hA (res_1 rfl hA rfl) ?_
  replace hH := hH.pick [] (Hs' := []) rfl
  exact ⟨_, rfl, rfl, hH⟩
 ·skip
  refine mv hA fun a hA => ?_
  refine gq hA rfl rfl (q_loadW hH 0 rfl Tryd.underlying29 rfl ti29 rfl (by first | omega | (simp; done) | (simp; omega) | (rw [List.length_map]; assumption) | assumption | rfl | (simp [*]; done) | (simp [*]; omega))) rfl fun a hA => ?_
  refine gl hA rfl rfl (lo_call fn14 rfl (great20_any _ _ _ _ (hH.rd htv) (hH.rd hvv) (by first | omega | (simp; done) | (simp; omega)) (by first | omega | (simp; done) | (simp; omega)) _ _ _ _ _ (by first | assumption | exact Dg.nil) (by first | assumption | exact Dg.nil) (hH.rd hua) (hH.rd hxa) (by first | omega | (simp; done) | (simp; omega)) (by first | omega | (simp; done) | (simp; omega)))) rfl ?_
  rintro _ w ⟨rfl, hC⟩ a hA
  replace hH := HS.call0 hH hC
  clear hC
  refine hA.spl (fun hs16 hA => ?_) (fun hs16 hA => ?_)
  ·skip
   refine sq hA (q_pick_f rfl rfl) rfl fun a hA => ?_
   refine wpList_nil ?_
   refine hK3 _ _ ?_
   clear hK3
   replace hA := hA.s7 17 10 9 8 0 1 2
   refine cond_t hA rfl ?_
   refine wp_seq_k fun K5 hK5 => ?_
   refine wp_region_lit ?_
   refine sl hA (lo_call fn15 rfl (awake20_any (hg.mono0 hH))) rfl ?_
   rintro _ w ⟨rfl, hC⟩ a hA
   replace hH := HS.call0 hH hC
   clear hC
   refine asg hA fun a hA => ?_
   refine wpList_nil ?_
   refine hK5 _ _ ?_
   clear hK5
   replace hA := hA.s6 10 9 8 0 1 2
   refine wp_ret ?_
   refine then_ret ?_
   refine post_ret hA (res_1 rfl hA rfl) ?_
   replace hH := hH.pick [] (Hs' := []) rfl
   exact ⟨_, rfl, rfl, hH⟩
  ·skip
   have hrl := encR_len (E := encK ix A B) hlT hlV (by omega)
   refine sq hA (q_pick_f rfl rfl) rfl fun a hA => ?_
   refine wpList_nil ?_
   refine hK3 _ _ ?_
   clear hK3
   replace hA := hA.s7 17 10 9 8 0 1 2
   refine cond_f hA rfl ?_
   refine wp_skip ?_
   refine hK2 _ _ ?_
   clear hK2
   replace hA := hA.s6 10 9 8 0 1 2
   refine wp_seq_k fun K6 hK6 => ?_
   refine any_go mixed (fun _ => true) hH ?_
   clear hH; intro w hH
   have hS := hH
   refine any_l 24 ?_
   refine p0 hA 0 1 rfl (fun w => (q_move rfl)) fun a hA => ?_
   refine p0 hA 1 3 rfl (fun w => (q_move rfl)) fun a hA => ?_
   refine p0 hA 2 7 rfl (fun w => (q_move rfl)) fun a hA => ?_
   refine r0 hA 4 23 rfl hS (fun w hH => (q_loadW hH 1 rfl Tryd.underlying24 rfl ti24 rfl (by first | omega | (simp; done) | (simp; omega) | (rw [List.length_map]; assumption) | assumption | rfl | (simp [*]; done) | (simp [*]; omega)))) fun a hA => ?_
   refine p0 hA 6 87 rfl (fun w => (q_move rfl)) fun a hA => ?_
   refine p0 hA 7 215 rfl (fun w => (q_move rfl)) fun a hA => ?_
   refine p0 hA 8 471 rfl (fun w => (q_move rfl)) fun a hA => ?_
   refine r0 hA 9 983 rfl hS (fun w hH => (q_loadW hH 1 rfl Tryd.underlying24 rfl ti24 rfl (by first | omega | (simp; done) | (simp; omega) | (rw [List.length_map]; assumption) | assumption | rfl | (simp [*]; done) | (simp [*]; omega)))) fun a hA => ?_
   refine a1 hA 3 991 rfl (lo_call fn18 rfl (own20_any _ _ (hH.rd hr) (by first | omega | (simp; done) | (simp; omega)))) ?_
   rintro _ w ⟨v_t22, N_t22, rfl, hO_t22, hC⟩
   replace hH := HS.call0 hH hC
   clear hC
   replace hS := hH.pick [1, 2] (Hs' := [_, _]) rfl
   refine ⟨fun _ _ => hS, ?_⟩
   intro a hA
   refine a1 hA 5 1023 rfl (lo_call fn17 rfl (text20_any _ _ (by first | exact hts9 _ | assumption | omega | decide) (by first | exact hts9 _ | assumption | omega | decide) _ _ (Own.rd0 hO_t22 hH 0 rfl) (by first | omega | (simp; done) | (simp; omega)) _ (by first | assumption | (rw [List.length_map]; assumption) | rfl | exact sha_length _ | (simp; done) | (simp [*]; done) | omega))) ?_
   rintro _ w ⟨v_t24, N_t24, rfl, hO_t24, hC⟩
   replace hH := HS.call0 hH hC
   clear hC
   replace hS := hH.pick [2, 3] (Hs' := [_, _]) rfl
   refine ⟨fun _ _ => hS, ?_⟩
   intro a hA
   refine a1 hA 10 2047 rfl (lo_call fn19 rfl (reftext20_any _ _ (by first | exact hts9 _ | assumption | omega | decide) (by first | exact hts9 _ | assumption | omega | decide) _ _ (hH.rd hr) (by first | omega | (simp; done) | (simp; omega)) _ (by first | assumption | (rw [List.length_map]; assumption) | rfl | exact sha_length _ | (simp; done) | (simp [*]; done) | omega))) ?_
   rintro _ w ⟨v_t29, N_t29, rfl, hO_t29, hC⟩
   replace hH := HS.call0 hH hC
   clear hC
   replace hS := hH.pick [3, 4] (Hs' := [_, _]) rfl
   refine ⟨fun _ _ => hS, ?_⟩
   intro a hA
   refine a1 hA 11 4095 rfl (lo_call fn16 rfl (same_any _ _ _ _ (Own.rd0 hO_t24 hH 1 rfl) (Own.rd0 hO_t29 hH 0 rfl) (by first | omega | (simp; done) | (simp; omega)) (by first | omega | (simp; done) | (simp; omega)))) ?_
   rintro _ w ⟨rfl, hC⟩
   replace hH := HS.call0 hH hC
   clear hC
   replace hS := hH.pick [3, 4] (Hs' := [_, _]) rfl
   refine ⟨fun _ _ => hS, ?_⟩
   intro a hA
   replace hA := hA.decT (by first | rfl | omega | assumption | (simp; done) | (simp [*]; done))
   refine p0 hA 12 8191 rfl (fun w => (q_move rfl)) fun a hA => ?_
   refine rg hA 13 16383 rfl rfl rfl hS (fun w hH => (q_loadW hH 0 rfl Tryd.underlying29 rfl ti29 rfl (by first | omega | (simp; done) | (simp; omega) | (rw [List.length_map]; assumption) | assumption | rfl | (simp [*]; done) | (simp [*]; omega)))) fun a hA => ?_
   refine rg hA 16 81919 rfl rfl rfl hS (fun w hH => (q_loadW hH 0 rfl Tryd.underlying29 rfl ti29 rfl (by first | omega | (simp; done) | (simp; omega) | (rw [List.length_map]; assumption) | assumption | rfl | (simp [*]; done) | (simp [*]; omega)))) fun a hA => ?_
   refine g1 hA 14 98303 rfl rfl rfl (lo_call fn21 rfl (copy20_any _ _ _ _ (hH.rd htv) (hH.rd hvv) (by first | omega | (simp; done) | (simp; omega)) (by first | omega | (simp; done) | (simp; omega)) _ _ _ _ _ (by first | assumption | exact Dg.nil) (by first | assumption | exact Dg.nil) (hH.rd hua) (hH.rd hxa) (by first | omega | (simp; done) | (simp; omega)) (by first | omega | (simp; done) | (simp; omega)))) ?_
   rintro _ w ⟨v_at33, v_bt33, v_ot33, v_pt33, N_at33, N_bt33, N_ot33, N_pt33, rfl, hO_at33, hO_bt33, hO_ot33, hO_pt33, hC⟩
   replace hH := HS.call0 hH hC
   clear hC
   replace hS := hH.pick [7, 8] (Hs' := [_, _]) rfl
   refine ⟨fun _ _ => hS, ?_⟩
   intro a hA
   refine g1 hA 15 131071 rfl rfl rfl (lo_call fn20 rfl (enc20_any _ _ _ _ (Own.rd0 hO_at33 hH 0 rfl) (Own.rd0 hO_bt33 hH 1 rfl) (by first | omega | (simp; done) | (simp; omega)) (by first | omega | (simp; done) | (simp; omega)) _ _ _ _ _ (by first | assumption | exact Dg.nil) (by first | assumption | exact Dg.nil) (Own.rd0 hO_ot33 hH 2 rfl) (Own.rd0 hO_pt33 hH 3 rfl) (by first | omega | (simp; done) | (simp; omega)) (by first | omega | (simp; done) | (simp; omega)) (by omega) (by omega) (by omega))) ?_
   rintro _ w ⟨v_t34, N_t34, rfl, hO_t34, hC⟩
   replace hH := HS.call0 hH hC
   clear hC
   replace hS := hH.pick [8, 9] (Hs' := [_, _]) rfl
   refine ⟨fun _ _ => hS, ?_⟩
   intro a hA
   refine g1 hA 17 262143 rfl rfl rfl (lo_call fn22 rfl (refenc20_any _ _ _ _ (hH.rd htv) (hH.rd hvv) (by first | omega | (simp; done) | (simp; omega)) (by first | omega | (simp; done) | (simp; omega)) _ _ _ _ _ (by first | assumption | exact Dg.nil) (by first | assumption | exact Dg.nil) (hH.rd hua) (hH.rd hxa) (by first | omega | (simp; done) | (simp; omega)) (by first | omega | (simp; done) | (simp; omega)) (by omega) (by omega) (by omega))) ?_
   rintro _ w ⟨v_t36, N_t36, rfl, hO_t36, hC⟩
   replace hH := HS.call0 hH hC
   clear hC
   replace hS := hH.pick [9, 10] (Hs' := [_, _]) rfl
   refine ⟨fun _ _ => hS, ?_⟩
   intro a hA
   refine g1 hA 18 524287 rfl rfl rfl (lo_call fn16 rfl (same_any _ _ _ _ (Own.rd0 hO_t34 hH 1 rfl) (Own.rd0 hO_t36 hH 0 rfl) (by first | omega | (simp; done) | (simp; omega)) (by first | omega | (simp; done) | (simp; omega)))) ?_
   rintro _ w ⟨rfl, hC⟩
   replace hH := HS.call0 hH hC
   clear hC
   replace hS := hH.pick [9, 10] (Hs' := [_, _]) rfl
   refine ⟨fun _ _ => hS, ?_⟩
   intro a hA
   refine p0 hA 19 1048575 rfl (fun w => (q_pick_t rfl rfl)) fun a hA => ?_
   replace hA := hA.decT (by first | rfl | omega | assumption | (simp; done) | (simp [*]; done))
   refine p0 hA 20 2097151 rfl (fun w => (q_move rfl)) fun a hA => ?_
   refine g1 hA 21 4194303 rfl rfl rfl (lo_call fn15 rfl (awake20_any (hg.mono0 hH))) ?_
   rintro _ w ⟨rfl, hC⟩
   replace hH := HS.call0 hH hC
   clear hC
   replace hS := hH.pick [9, 10] (Hs' := [_, _]) rfl
   refine ⟨fun _ _ => hS, ?_⟩
   intro a hA
   refine p0 hA 22 8388607 rfl (fun w => (q_pick_t rfl rfl)) fun a hA => ?_
   refine p0 hA 23 16777215 rfl (fun w => (q_assign rfl)) fun a hA => ?_
   refine a_end (by kernel_rfl) ?_ _
   refine hK6 _ _ ?_
   clear hK6
   replace hA := hA.s1 10
   refine wp_ret ?_
   refine post_ret hA (res_1 rfl hA rfl) ?_
   replace hH := hH.pick [] (Hs' := []) rfl
   exact ⟨_, rfl, rfl, hH⟩

set_option maxHeartbeats 1000000 in
theorem resultChecks_any {w0 : World} (hg : Gl 2 w0) (tv vv : Value) (T V : Bs) (htv : By [] w0 tv T) (hvv : By [] w0 vv V) (hlT : T.length ≤ 1048576) (hlV : V.length ≤ 1048576) (ix : Int) (ua xa : Value) (A B : List Bs) (hdA : Dg A) (hdB : Dg B) (hua : RdD [] w0 ua A) (hxa : RdD [] w0 xa B) (hlA : A.length ≤ 1048576) (hlB : B.length ≤ 1048576) (hi9 : ix ≤ 9223372036854775807) (ts : List Int) (hts : ts.length = 6) (hts9 : ∀ i, ts.getD i 0 ≤ 9223372036854775807) (s : Bs) (hs : s.length = 32) (pub : Bs) (hpub : pub.length = 32) (n h : Int) :
    Calls Tryd.prog 4 #[(.agg #[tv, vv, I ix, ua, xa]), (.agg ((ts).map I).toArray), (.agg ((s).map B8).toArray), (.agg ((pub).map B8).toArray), I n, I h] w0 (Ret fun r w' => r = .bool true ∧ HS [] w0 w' []) := by
 have hH := HS.start w0
 refine start (n := 40) (E := [(0, _), (1, _), (2, _), (3, _), (4, _), (5, _)]) Tryd.func4 rfl rfl rfl (args_look rfl) ?_
 intro a hA
 refine wp_seq_k fun K1 hK1 => ?_
 refine wp_region_lit ?_
 refine sl hA (lo_boxA hH rfl) rfl ?_
 clear hH; rintro _ w ⟨b_t6, rfl, hH⟩ a hA
 refine sl hA (lo_boxA hH rfl) rfl ?_
 clear hH; rintro _ w ⟨b_t7, rfl, hH⟩ a hA
 refine sl hA (lo_boxA hH rfl) rfl ?_
 clear hH; rintro _ w ⟨b_t8, rfl, hH⟩ a hA
 refine sl hA (lo_boxA hH rfl) rfl ?_
 clear hH; rintro _ w ⟨b_t9, rfl, hH⟩ a hA
 refine asg hA fun a hA => ?_
 refine wpList_nil ?_
 refine hK1 _ _ ?_
 clear hK1
 replace hA := hA.s7 12 9 8 7 6 4 5
 refine wp_seq_k fun K2 hK2 => ?_
 refine wp_seq_k fun K3 hK3 => ?_
 refine wp_region_lit ?_
 refine mv hA fun a hA => ?_
 refine mv hA fun a hA => ?_
 refine sl hA (lo_call fn23 rfl (glaw20_any _ _)) rfl ?_
 rintro _ w ⟨rfl, hC⟩ a hA
 replace hH := HS.call0 hH hC
 clear hC
 refine hA.spl (fun hs15 hA => ?_) (fun hs15 hA => ?_)
 ·skip
  refine mv hA fun a hA => ?_
  refine gs hA rfl rfl rfl rfl fun a hA => ?_
  refine gs hA rfl rfl rfl rfl fun a hA => ?_
  refine sq hA (q_pick_t rfl rfl) rfl fun a hA => ?_
  refine wpList_nil ?_
  refine hK3 _ _ ?_
  clear hK3
  replace hA := hA.s8 19 12 9 8 7 6 4 5
  refine cond_t hA rfl ?_
  refine wp_seq_k fun K4 hK4 => ?_
  refine wp_region_lit ?_
  refine sl hA (lo_call fn15 rfl (awake20_any (hg.mono0 hH))) rfl ?_
  rintro _ w ⟨rfl, hC⟩ a hA
  replace hH := HS.call0 hH hC
  clear hC
  refine asg hA fun a hA => ?_
  refine wpList_nil ?_
  refine hK4 _ _ ?_
  clear hK4
  replace hA := hA.s7 12 9 8 7 6 4 5
  refine wp_ret ?_
  refine then_ret ?_
  refine post_ret hA (res_1 rfl hA rfl) ?_
  replace hH := hH.pick [] (Hs' := []) rfl
  exact ⟨_, rfl, rfl, hH⟩
 ·skip
  refine mv hA fun a hA => ?_
  refine gq hA rfl rfl (q_loadW hH 3 rfl Tryd.underlying29 rfl ti29 rfl (by first | omega | (simp; done) | (simp; omega) | (rw [List.length_map]; assumption) | assumption | rfl | (simp [*]; done) | (simp [*]; omega))) rfl fun a hA => ?_
  refine gl hA rfl rfl (lo_call fn14 rfl (great20_any _ _ _ _ (hH.rd htv) (hH.rd hvv) (by first | omega | (simp; done) | (simp; omega)) (by first | omega | (simp; done) | (simp; omega)) _ _ _ _ _ (by first | assumption | exact Dg.nil) (by first | assumption | exact Dg.nil) (hH.rd hua) (hH.rd hxa) (by first | omega | (simp; done) | (simp; omega)) (by first | omega | (simp; done) | (simp; omega)))) rfl ?_
  rintro _ w ⟨rfl, hC⟩ a hA
  replace hH := HS.call0 hH hC
  clear hC
  refine hA.spl (fun hs18 hA => ?_) (fun hs18 hA => ?_)
  ·skip
   refine sq hA (q_pick_f rfl rfl) rfl fun a hA => ?_
   refine wpList_nil ?_
   refine hK3 _ _ ?_
   clear hK3
   replace hA := hA.s8 19 12 9 8 7 6 4 5
   refine cond_t hA rfl ?_
   refine wp_seq_k fun K5 hK5 => ?_
   refine wp_region_lit ?_
   refine sl hA (lo_call fn15 rfl (awake20_any (hg.mono0 hH))) rfl ?_
   rintro _ w ⟨rfl, hC⟩ a hA
   replace hH := HS.call0 hH hC
   clear hC
   refine asg hA fun a hA => ?_
   refine wpList_nil ?_
   refine hK5 _ _ ?_
   clear hK5
   replace hA := hA.s7 12 9 8 7 6 4 5
   refine wp_ret ?_
   refine then_ret ?_
   refine post_ret hA (res_1 rfl hA rfl) ?_
   replace hH := hH.pick [] (Hs' := []) rfl
   exact ⟨_, rfl, rfl, hH⟩
  ·skip
   refine sq hA (q_pick_f rfl rfl) rfl fun a hA => ?_
   refine wpList_nil ?_
   refine hK3 _ _ ?_
   clear hK3
   replace hA := hA.s8 19 12 9 8 7 6 4 5
   refine cond_f hA rfl ?_
   refine wp_skip ?_
   refine hK2 _ _ ?_
   clear hK2
   replace hA := hA.s7 12 9 8 7 6 4 5
   refine wp_seq_k fun K6 hK6 => ?_
   refine any_go mixed (fun _ => true) hH ?_
   clear hH; intro w hH
   have hS := hH
   refine any_l 20 ?_
   refine r0 hA 0 1 rfl hS (fun w hH => (q_loadW hH 3 rfl Tryd.underlying29 rfl ti29 rfl (by first | omega | (simp; done) | (simp; omega) | (rw [List.length_map]; assumption) | assumption | rfl | (simp [*]; done) | (simp [*]; omega)))) fun a hA => ?_
   refine r0 hA 2 5 rfl hS (fun w hH => (q_loadW hH 2 rfl Tryd.underlying39 rfl ti39 rfl (by first | omega | (simp; done) | (simp; omega) | (rw [List.length_map]; assumption) | assumption | rfl | (simp [*]; done) | (simp [*]; omega)))) fun a hA => ?_
   refine r0 hA 3 13 rfl hS (fun w hH => (q_loadW hH 1 rfl Tryd.underlying24 rfl ti24 rfl (by first | omega | (simp; done) | (simp; omega) | (rw [List.length_map]; assumption) | assumption | rfl | (simp [*]; done) | (simp [*]; omega)))) fun a hA => ?_
   refine r0 hA 4 29 rfl hS (fun w hH => (q_loadW hH 0 rfl Tryd.underlying24 rfl ti24 rfl (by first | omega | (simp; done) | (simp; omega) | (rw [List.length_map]; assumption) | assumption | rfl | (simp [*]; done) | (simp [*]; omega)))) fun a hA => ?_
   refine p0 hA 5 61 rfl (fun w => (q_move rfl)) fun a hA => ?_
   refine p0 hA 6 125 rfl (fun w => (q_move rfl)) fun a hA => ?_
   refine r0 hA 8 381 rfl hS (fun w hH => (q_loadW hH 3 rfl Tryd.underlying29 rfl ti29 rfl (by first | omega | (simp; done) | (simp; omega) | (rw [List.length_map]; assumption) | assumption | rfl | (simp [*]; done) | (simp [*]; omega)))) fun a hA => ?_
   refine r0 hA 9 893 rfl hS (fun w hH => (q_loadW hH 2 rfl Tryd.underlying39 rfl ti39 rfl (by first | omega | (simp; done) | (simp; omega) | (rw [List.length_map]; assumption) | assumption | rfl | (simp [*]; done) | (simp [*]; omega)))) fun a hA => ?_
   refine r0 hA 10 1917 rfl hS (fun w hH => (q_loadW hH 1 rfl Tryd.underlying24 rfl ti24 rfl (by first | omega | (simp; done) | (simp; omega) | (rw [List.length_map]; assumption) | assumption | rfl | (simp [*]; done) | (simp [*]; omega)))) fun a hA => ?_
   refine r0 hA 11 3965 rfl hS (fun w hH => (q_loadW hH 0 rfl Tryd.underlying24 rfl ti24 rfl (by first | omega | (simp; done) | (simp; omega) | (rw [List.length_map]; assumption) | assumption | rfl | (simp [*]; done) | (simp [*]; omega)))) fun a hA => ?_
   refine p0 hA 12 8061 rfl (fun w => (q_move rfl)) fun a hA => ?_
   refine p0 hA 13 16253 rfl (fun w => (q_move rfl)) fun a hA => ?_
   refine a1 hA 1 16255 rfl (lo_call fn21 rfl (copy20_any _ _ _ _ (hH.rd htv) (hH.rd hvv) (by first | omega | (simp; done) | (simp; omega)) (by first | omega | (simp; done) | (simp; omega)) _ _ _ _ _ (by first | assumption | exact Dg.nil) (by first | assumption | exact Dg.nil) (hH.rd hua) (hH.rd hxa) (by first | omega | (simp; done) | (simp; omega)) (by first | omega | (simp; done) | (simp; omega)))) ?_
   rintro _ w ⟨v_at22, v_bt22, v_ot22, v_pt22, N_at22, N_bt22, N_ot22, N_pt22, rfl, hO_at22, hO_bt22, hO_ot22, hO_pt22, hC⟩
   replace hH := HS.call0 hH hC
   clear hC
   replace hS := hH.pick [4, 5, 6, 7] (Hs' := [_, _, _, _]) rfl
   refine ⟨fun _ _ => hS, ?_⟩
   intro a hA
   refine a1 hA 7 16383 rfl (lo_call fn24 rfl (check20_any (hg.mono0 hH) _ _ _ _ (Own.rd0 hO_at22 hH 0 rfl) (Own.rd0 hO_bt22 hH 1 rfl) (by first | omega | (simp; done) | (simp; omega)) (by first | omega | (simp; done) | (simp; omega)) _ _ _ _ _ (by first | assumption | exact Dg.nil) (by first | assumption | exact Dg.nil) (Own.rd0 hO_ot22 hH 2 rfl) (Own.rd0 hO_pt22 hH 3 rfl) (by first | omega | (simp; done) | (simp; omega)) (by first | omega | (simp; done) | (simp; omega)) (by omega) (by omega) (by omega) _ (by first | assumption | rfl) (by first | assumption | exact ts9_of (by decide)) _ (by first | assumption | (rw [List.length_map]; assumption) | rfl | exact sha_length _ | (simp; done) | (simp [*]; done) | omega) _ (by first | assumption | (rw [List.length_map]; assumption) | rfl | exact sha_length _ | (simp; done) | (simp [*]; done) | omega) _ _ (by first | omega | decide))) ?_
   rintro _ w ⟨rfl, hC⟩
   replace hH := HS.call0 hH hC
   clear hC
   replace hS := hH.pick [4, 5, 6, 7] (Hs' := [_, _, _, _]) rfl
   refine ⟨fun _ _ => hS, ?_⟩
   intro a hA
   refine a1 hA 14 32767 rfl (lo_call fn25 rfl (refcheck20_any (hg.mono hH NG.nil) _ _ _ _ (hH.rd htv) (hH.rd hvv) (by first | omega | (simp; done) | (simp; omega)) (by first | omega | (simp; done) | (simp; omega)) _ _ _ _ _ (by first | assumption | exact Dg.nil) (by first | assumption | exact Dg.nil) (hH.rd hua) (hH.rd hxa) (by first | omega | (simp; done) | (simp; omega)) (by first | omega | (simp; done) | (simp; omega)) (by omega) (by omega) (by omega) _ (by first | assumption | rfl) (by first | assumption | exact ts9_of (by decide)) _ (by first | assumption | (rw [List.length_map]; assumption) | rfl | exact sha_length _ | (simp; done) | (simp [*]; done) | omega) _ (by first | assumption | (rw [List.length_map]; assumption) | rfl | exact sha_length _ | (simp; done) | (simp [*]; done) | omega) _ _ (by first | omega | decide))) ?_
   rintro _ w ⟨rfl, hC⟩
   replace hH := HS.call0 hH hC
   clear hC
   replace hS := hH.pick [4, 5, 6, 7] (Hs' := [_, _, _, _]) rfl
   refine ⟨fun _ _ => hS, ?_⟩
   intro a hA
   refine p0 hA 15 65535 rfl (fun w => (q_eqlI rfl rfl)) fun a hA => ?_
   replace hA := hA.decT (by first | rfl | omega | assumption | (simp; done) | (simp [*]; done))
   refine p0 hA 16 131071 rfl (fun w => (q_move rfl)) fun a hA => ?_
   refine g1 hA 17 262143 rfl rfl rfl (lo_call fn15 rfl (awake20_any (hg.mono0 hH))) ?_
   rintro _ w ⟨rfl, hC⟩
   replace hH := HS.call0 hH hC
   clear hC
   replace hS := hH.pick [4, 5, 6, 7] (Hs' := [_, _, _, _]) rfl
   refine ⟨fun _ _ => hS, ?_⟩
   intro a hA
   refine p0 hA 18 524287 rfl (fun w => (q_pick_t rfl rfl)) fun a hA => ?_
   refine p0 hA 19 1048575 rfl (fun w => (q_assign rfl)) fun a hA => ?_
   refine a_end (by kernel_rfl) ?_ _
   refine hK6 _ _ ?_
   clear hK6
   replace hA := hA.s1 12
   refine wp_ret ?_
   refine post_ret hA (res_1 rfl hA rfl) ?_
   replace hH := hH.pick [] (Hs' := []) rfl
   exact ⟨_, rfl, rfl, hH⟩

set_option maxHeartbeats 1000000 in
theorem resultApart_any {w0 : World} {lv : Nat} (hg : Gl lv w0) (ja aa : Int) (hja9 : ja ≤ 9223372036854775807) (haa9 : aa ≤ 9223372036854775807) (va : Value) (la : Bs) (hva : By [] w0 va la) (hlla : la.length ≤ 1048576) (na : Bs) (hna : na.length = 32) (jb ab : Int) (hjb9 : jb ≤ 9223372036854775807) (hab9 : ab ≤ 9223372036854775807) (vb : Value) (lb : Bs) (hvb : By [] w0 vb lb) (hllb : lb.length ≤ 1048576) (nb : Bs) (hnb : nb.length = 32) :
    Calls Tryd.prog 5 #[(.agg (saidC ja aa va na).toArray), (.agg (saidC jb ab vb nb).toArray)] w0 (Ret fun r w' => r = .bool true ∧ HS [] w0 w' []) := by
 have hH := HS.start w0
 refine start (n := 93) (E := [(0, _), (1, _)]) Tryd.func5 rfl rfl rfl (args_look rfl) ?_
 intro a hA
 have hxa := txV_len (j := (max ja 0).toNat) (a := (max aa 0).toNat) (v := la) (nonce := na) (by omega) (by omega) (by omega) hna
 have hxb := txV_len (j := (max jb 0).toNat) (a := (max ab 0).toNat) (v := lb) (nonce := nb) (by omega) (by omega) (by omega) hnb
 refine wp_seq_k fun K1 hK1 => ?_
 refine wp_region_lit ?_
 refine sl hA (lo_boxA hH rfl) rfl ?_
 clear hH; rintro _ w ⟨b_t2, rfl, hH⟩ a hA
 refine sl hA (lo_boxA hH rfl) rfl ?_
 clear hH; rintro _ w ⟨b_t3, rfl, hH⟩ a hA
 refine asg hA fun a hA => ?_
 refine wpList_nil ?_
 refine hK1 _ _ ?_
 clear hK1
 replace hA := hA.s3 4 3 2
 refine wp_seq_k fun K2 hK2 => ?_
 refine wp_seq_k fun K3 hK3 => ?_
 refine wp_region_lit ?_
 refine sq hA (q_fld 0 Tryd.underlying46 rfl rfl ti3 rfl) rfl fun a hA => ?_
 refine sq hA (q_loadB hH 1 rfl (List.mem_singleton.2 rfl) Tryd.underlying3 rfl rfl rfl) rfl fun a hA => ?_
 refine sq hA (q_lssI (n := 0) rfl rfl) rfl fun a hA => ?_
 refine hA.spl (fun hs10 hA => ?_) (fun hs10 hA => ?_)
 ·skip
  refine mv hA fun a hA => ?_
  refine gs hA rfl rfl rfl rfl fun a hA => ?_
  refine gs hA rfl rfl rfl rfl fun a hA => ?_
  refine gs hA rfl rfl rfl rfl fun a hA => ?_
  refine sq hA (q_pick_t rfl rfl) rfl fun a hA => ?_
  refine mv hA fun a hA => ?_
  refine gs hA rfl rfl rfl rfl fun a hA => ?_
  refine gs hA rfl rfl rfl rfl fun a hA => ?_
  refine gs hA rfl rfl rfl rfl fun a hA => ?_
  refine sq hA (q_pick_t rfl rfl) rfl fun a hA => ?_
  refine mv hA fun a hA => ?_
  refine gs hA rfl rfl rfl rfl fun a hA => ?_
  refine gs hA rfl rfl rfl rfl fun a hA => ?_
  refine gs hA rfl rfl rfl rfl fun a hA => ?_
  refine sq hA (q_pick_t rfl rfl) rfl fun a hA => ?_
  refine mv hA fun a hA => ?_
  refine gs hA rfl rfl rfl rfl fun a hA => ?_
  refine gs hA rfl rfl rfl rfl fun a hA => ?_
  refine gs hA rfl rfl rfl rfl fun a hA => ?_
  refine gs hA rfl rfl rfl rfl fun a hA => ?_
  refine sq hA (q_pick_t rfl rfl) rfl fun a hA => ?_
  refine mv hA fun a hA => ?_
  refine gs hA rfl rfl rfl rfl fun a hA => ?_
  refine gs hA rfl rfl rfl rfl fun a hA => ?_
  refine gs hA rfl rfl rfl rfl fun a hA => ?_
  refine gs hA rfl rfl rfl rfl fun a hA => ?_
  refine sq hA (q_pick_t rfl rfl) rfl fun a hA => ?_
  refine wpList_nil ?_
  refine hK3 _ _ ?_
  clear hK3
  replace hA := hA.s4 37 4 3 2
  refine cond_t hA rfl ?_
  refine wp_seq_k fun K4 hK4 => ?_
  refine wp_region_lit ?_
  refine sl hA (lo_call fn15 rfl (awake20_any (hg.mono0 hH))) rfl ?_
  rintro _ w ⟨rfl, hC⟩ a hA
  replace hH := HS.call0 hH hC
  clear hC
  refine asg hA fun a hA => ?_
  refine wpList_nil ?_
  refine hK4 _ _ ?_
  clear hK4
  replace hA := hA.s3 4 3 2
  refine wp_ret ?_
  refine then_ret ?_
  refine post_ret hA (res_1 rfl hA rfl) ?_
  replace hH := hH.pick [] (Hs' := []) rfl
  exact ⟨_, rfl, rfl, hH⟩
 ·skip
  refine mv hA fun a hA => ?_
  refine gq hA rfl rfl (q_fld 1 Tryd.underlying46 rfl rfl ti3 rfl) rfl fun a hA => ?_
  refine gq hA rfl rfl (q_loadB hH 1 rfl (List.mem_singleton.2 rfl) Tryd.underlying3 rfl rfl rfl) rfl fun a hA => ?_
  refine gq hA rfl rfl (q_lssI (n := 0) rfl rfl) rfl fun a hA => ?_
  refine hA.spl (fun hs14 hA => ?_) (fun hs14 hA => ?_)
  ·skip
   refine sq hA (q_pick_f rfl rfl) rfl fun a hA => ?_
   refine mv hA fun a hA => ?_
   refine gs hA rfl rfl rfl rfl fun a hA => ?_
   refine gs hA rfl rfl rfl rfl fun a hA => ?_
   refine gs hA rfl rfl rfl rfl fun a hA => ?_
   refine sq hA (q_pick_t rfl rfl) rfl fun a hA => ?_
   refine mv hA fun a hA => ?_
   refine gs hA rfl rfl rfl rfl fun a hA => ?_
   refine gs hA rfl rfl rfl rfl fun a hA => ?_
   refine gs hA rfl rfl rfl rfl fun a hA => ?_
   refine sq hA (q_pick_t rfl rfl) rfl fun a hA => ?_
   refine mv hA fun a hA => ?_
   refine gs hA rfl rfl rfl rfl fun a hA => ?_
   refine gs hA rfl rfl rfl rfl fun a hA => ?_
   refine gs hA rfl rfl rfl rfl fun a hA => ?_
   refine gs hA rfl rfl rfl rfl fun a hA => ?_
   refine sq hA (q_pick_t rfl rfl) rfl fun a hA => ?_
   refine mv hA fun a hA => ?_
   refine gs hA rfl rfl rfl rfl fun a hA => ?_
   refine gs hA rfl rfl rfl rfl fun a hA => ?_
   refine gs hA rfl rfl rfl rfl fun a hA => ?_
   refine gs hA rfl rfl rfl rfl fun a hA => ?_
   refine sq hA (q_pick_t rfl rfl) rfl fun a hA => ?_
   refine wpList_nil ?_
   refine hK3 _ _ ?_
   clear hK3
   replace hA := hA.s4 37 4 3 2
   refine cond_t hA rfl ?_
   refine wp_seq_k fun K5 hK5 => ?_
   refine wp_region_lit ?_
   refine sl hA (lo_call fn15 rfl (awake20_any (hg.mono0 hH))) rfl ?_
   rintro _ w ⟨rfl, hC⟩ a hA
   replace hH := HS.call0 hH hC
   clear hC
   refine asg hA fun a hA => ?_
   refine wpList_nil ?_
   refine hK5 _ _ ?_
   clear hK5
   replace hA := hA.s3 4 3 2
   refine wp_ret ?_
   refine then_ret ?_
   refine post_ret hA (res_1 rfl hA rfl) ?_
   replace hH := hH.pick [] (Hs' := []) rfl
   exact ⟨_, rfl, rfl, hH⟩
  ·skip
   refine sq hA (q_pick_f rfl rfl) rfl fun a hA => ?_
   refine mv hA fun a hA => ?_
   refine gq hA rfl rfl (q_fld 0 Tryd.underlying46 rfl rfl ti3 rfl) rfl fun a hA => ?_
   refine gq hA rfl rfl (q_loadB hH 0 rfl (List.mem_singleton.2 rfl) Tryd.underlying3 rfl rfl rfl) rfl fun a hA => ?_
   refine gq hA rfl rfl (q_lssI (n := 0) rfl rfl) rfl fun a hA => ?_
   refine hA.spl (fun hs19 hA => ?_) (fun hs19 hA => ?_)
   ·skip
    refine sq hA (q_pick_f rfl rfl) rfl fun a hA => ?_
    refine mv hA fun a hA => ?_
    refine gs hA rfl rfl rfl rfl fun a hA => ?_
    refine gs hA rfl rfl rfl rfl fun a hA => ?_
    refine gs hA rfl rfl rfl rfl fun a hA => ?_
    refine sq hA (q_pick_t rfl rfl) rfl fun a hA => ?_
    refine mv hA fun a hA => ?_
    refine gs hA rfl rfl rfl rfl fun a hA => ?_
    refine gs hA rfl rfl rfl rfl fun a hA => ?_
    refine gs hA rfl rfl rfl rfl fun a hA => ?_
    refine gs hA rfl rfl rfl rfl fun a hA => ?_
    refine sq hA (q_pick_t rfl rfl) rfl fun a hA => ?_
    refine mv hA fun a hA => ?_
    refine gs hA rfl rfl rfl rfl fun a hA => ?_
    refine gs hA rfl rfl rfl rfl fun a hA => ?_
    refine gs hA rfl rfl rfl rfl fun a hA => ?_
    refine gs hA rfl rfl rfl rfl fun a hA => ?_
    refine sq hA (q_pick_t rfl rfl) rfl fun a hA => ?_
    refine wpList_nil ?_
    refine hK3 _ _ ?_
    clear hK3
    replace hA := hA.s4 37 4 3 2
    refine cond_t hA rfl ?_
    refine wp_seq_k fun K6 hK6 => ?_
    refine wp_region_lit ?_
    refine sl hA (lo_call fn15 rfl (awake20_any (hg.mono0 hH))) rfl ?_
    rintro _ w ⟨rfl, hC⟩ a hA
    replace hH := HS.call0 hH hC
    clear hC
    refine asg hA fun a hA => ?_
    refine wpList_nil ?_
    refine hK6 _ _ ?_
    clear hK6
    replace hA := hA.s3 4 3 2
    refine wp_ret ?_
    refine then_ret ?_
    refine post_ret hA (res_1 rfl hA rfl) ?_
    replace hH := hH.pick [] (Hs' := []) rfl
    exact ⟨_, rfl, rfl, hH⟩
   ·skip
    refine sq hA (q_pick_f rfl rfl) rfl fun a hA => ?_
    refine mv hA fun a hA => ?_
    refine gq hA rfl rfl (q_fld 1 Tryd.underlying46 rfl rfl ti3 rfl) rfl fun a hA => ?_
    refine gq hA rfl rfl (q_loadB hH 0 rfl (List.mem_singleton.2 rfl) Tryd.underlying3 rfl rfl rfl) rfl fun a hA => ?_
    refine gq hA rfl rfl (q_lssI (n := 0) rfl rfl) rfl fun a hA => ?_
    refine hA.spl (fun hs24 hA => ?_) (fun hs24 hA => ?_)
    ·skip
     refine sq hA (q_pick_f rfl rfl) rfl fun a hA => ?_
     refine mv hA fun a hA => ?_
     refine gs hA rfl rfl rfl rfl fun a hA => ?_
     refine gs hA rfl rfl rfl rfl fun a hA => ?_
     refine gs hA rfl rfl rfl rfl fun a hA => ?_
     refine gs hA rfl rfl rfl rfl fun a hA => ?_
     refine sq hA (q_pick_t rfl rfl) rfl fun a hA => ?_
     refine mv hA fun a hA => ?_
     refine gs hA rfl rfl rfl rfl fun a hA => ?_
     refine gs hA rfl rfl rfl rfl fun a hA => ?_
     refine gs hA rfl rfl rfl rfl fun a hA => ?_
     refine gs hA rfl rfl rfl rfl fun a hA => ?_
     refine sq hA (q_pick_t rfl rfl) rfl fun a hA => ?_
     refine wpList_nil ?_
     refine hK3 _ _ ?_
     clear hK3
     replace hA := hA.s4 37 4 3 2
     refine cond_t hA rfl ?_
     refine wp_seq_k fun K7 hK7 => ?_
     refine wp_region_lit ?_
     refine sl hA (lo_call fn15 rfl (awake20_any (hg.mono0 hH))) rfl ?_
     rintro _ w ⟨rfl, hC⟩ a hA
     replace hH := HS.call0 hH hC
     clear hC
     refine asg hA fun a hA => ?_
     refine wpList_nil ?_
     refine hK7 _ _ ?_
     clear hK7
     replace hA := hA.s3 4 3 2
     refine wp_ret ?_
     refine then_ret ?_
     refine post_ret hA (res_1 rfl hA rfl) ?_
     replace hH := hH.pick [] (Hs' := []) rfl
     exact ⟨_, rfl, rfl, hH⟩
    ·skip
     refine sq hA (q_pick_f rfl rfl) rfl fun a hA => ?_
     refine mv hA fun a hA => ?_
     refine gq hA rfl rfl (q_fld 2 Tryd.underlying46 rfl rfl ti22 rfl) rfl fun a hA => ?_
     refine gq hA rfl rfl (q_loadB hH 1 rfl (List.mem_singleton.2 rfl) Tryd.underlying22 rfl rfl rfl) rfl fun a hA => ?_
     refine gq hA rfl rfl (q_len Tryd.underlying22 rfl (Rd.shp hva)) rfl fun a hA => ?_
     refine gq hA rfl rfl (q_gtrI (n := 300) rfl rfl) rfl fun a hA => ?_
     refine hA.spl (fun hs30 hA => ?_) (fun hs30 hA => ?_)
     ·skip
      refine sq hA (q_pick_f rfl rfl) rfl fun a hA => ?_
      refine mv hA fun a hA => ?_
      refine gs hA rfl rfl rfl rfl fun a hA => ?_
      refine gs hA rfl rfl rfl rfl fun a hA => ?_
      refine gs hA rfl rfl rfl rfl fun a hA => ?_
      refine gs hA rfl rfl rfl rfl fun a hA => ?_
      refine sq hA (q_pick_t rfl rfl) rfl fun a hA => ?_
      refine wpList_nil ?_
      refine hK3 _ _ ?_
      clear hK3
      replace hA := hA.s4 37 4 3 2
      refine cond_t hA rfl ?_
      refine wp_seq_k fun K8 hK8 => ?_
      refine wp_region_lit ?_
      refine sl hA (lo_call fn15 rfl (awake20_any (hg.mono0 hH))) rfl ?_
      rintro _ w ⟨rfl, hC⟩ a hA
      replace hH := HS.call0 hH hC
      clear hC
      refine asg hA fun a hA => ?_
      refine wpList_nil ?_
      refine hK8 _ _ ?_
      clear hK8
      replace hA := hA.s3 4 3 2
      refine wp_ret ?_
      refine then_ret ?_
      refine post_ret hA (res_1 rfl hA rfl) ?_
      replace hH := hH.pick [] (Hs' := []) rfl
      exact ⟨_, rfl, rfl, hH⟩
     ·skip
      refine sq hA (q_pick_f rfl rfl) rfl fun a hA => ?_
      refine mv hA fun a hA => ?_
      refine gq hA rfl rfl (q_fld 2 Tryd.underlying46 rfl rfl ti22 rfl) rfl fun a hA => ?_
      refine gq hA rfl rfl (q_loadB hH 0 rfl (List.mem_singleton.2 rfl) Tryd.underlying22 rfl rfl rfl) rfl fun a hA => ?_
      refine gq hA rfl rfl (q_len Tryd.underlying22 rfl (Rd.shp hvb)) rfl fun a hA => ?_
      refine gq hA rfl rfl (q_gtrI (n := 300) rfl rfl) rfl fun a hA => ?_
      refine hA.spl (fun hs36 hA => ?_) (fun hs36 hA => ?_)
      ·skip
       refine sq hA (q_pick_f rfl rfl) rfl fun a hA => ?_
       refine wpList_nil ?_
       refine hK3 _ _ ?_
       clear hK3
       replace hA := hA.s4 37 4 3 2
       refine cond_t hA rfl ?_
       refine wp_seq_k fun K9 hK9 => ?_
       refine wp_region_lit ?_
       refine sl hA (lo_call fn15 rfl (awake20_any (hg.mono0 hH))) rfl ?_
       rintro _ w ⟨rfl, hC⟩ a hA
       replace hH := HS.call0 hH hC
       clear hC
       refine asg hA fun a hA => ?_
       refine wpList_nil ?_
       refine hK9 _ _ ?_
       clear hK9
       replace hA := hA.s3 4 3 2
       refine wp_ret ?_
       refine then_ret ?_
       refine post_ret hA (res_1 rfl hA rfl) ?_
       replace hH := hH.pick [] (Hs' := []) rfl
       exact ⟨_, rfl, rfl, hH⟩
      ·skip
       refine sq hA (q_pick_f rfl rfl) rfl fun a hA => ?_
       refine wpList_nil ?_
       refine hK3 _ _ ?_
       clear hK3
       replace hA := hA.s4 37 4 3 2
       refine cond_f hA rfl ?_
       refine wp_skip ?_
       refine hK2 _ _ ?_
       clear hK2
       replace hA := hA.s3 4 3 2
       refine wp_seq_k fun K10 hK10 => ?_
       refine any_go mixed (fun _ => true) hH ?_
       clear hH; intro w hH
       have hS := hH
       refine any_l 11 ?_
       refine p0 hA 0 1 rfl (fun w => (q_fld 0 Tryd.underlying46 rfl rfl ti3 rfl)) fun a hA => ?_
       refine r0 hA 1 3 rfl hS (fun w hH => (q_loadB hH 1 rfl (List.mem_singleton.2 rfl) Tryd.underlying3 rfl rfl rfl)) fun a hA => ?_
       refine p0 hA 2 7 rfl (fun w => (q_fld 1 Tryd.underlying46 rfl rfl ti3 rfl)) fun a hA => ?_
       refine r0 hA 3 15 rfl hS (fun w hH => (q_loadB hH 1 rfl (List.mem_singleton.2 rfl) Tryd.underlying3 rfl rfl rfl)) fun a hA => ?_
       refine p0 hA 4 31 rfl (fun w => (q_fld 2 Tryd.underlying46 rfl rfl ti22 rfl)) fun a hA => ?_
       refine r0 hA 5 63 rfl hS (fun w hH => (q_loadB hH 1 rfl (List.mem_singleton.2 rfl) Tryd.underlying22 rfl rfl rfl)) fun a hA => ?_
       refine p0 hA 7 191 rfl (fun w => (q_fld 3 Tryd.underlying46 rfl rfl ti24 rfl)) fun a hA => ?_
       refine r0 hA 8 447 rfl hS (fun w hH => (q_loadBA hH 1 rfl (List.mem_singleton.2 rfl) Tryd.underlying24 rfl ti24 rfl _ (saidC_n hna) (by simp [hna]))) fun a hA => ?_
       refine a1 hA 6 511 rfl (lo_call fn18 rfl (own20_any _ _ (hH.rd hva) (by first | omega | (simp; done) | (simp; omega)))) ?_
       rintro _ w ⟨v_t45, N_t45, rfl, hO_t45, hC⟩
       replace hH := HS.call0 hH hC
       clear hC
       replace hS := hH.pick [1, 2] (Hs' := [_, _]) rfl
       refine ⟨fun _ _ => hS, ?_⟩
       intro a hA
       refine a1 hA 9 1023 rfl (lo_call fn17 rfl (text20_any _ _ (by first | exact hts9 _ | assumption | omega | decide) (by first | exact hts9 _ | assumption | omega | decide) _ _ (Own.rd0 hO_t45 hH 0 rfl) (by first | omega | (simp; done) | (simp; omega)) _ (by first | assumption | (rw [List.length_map]; assumption) | rfl | exact sha_length _ | (simp; done) | (simp [*]; done) | omega))) ?_
       rintro _ w ⟨v_t48, N_t48, rfl, hO_t48, hC⟩
       replace hH := HS.call0 hH hC
       clear hC
       replace hS := hH.pick [2, 3] (Hs' := [_, _]) rfl
       refine ⟨fun _ _ => hS, ?_⟩
       intro a hA
       refine p0 hA 10 2047 rfl (fun w => (q_assign rfl)) fun a hA => ?_
       refine a_end (by kernel_rfl) ?_ _
       refine hK10 _ _ ?_
       clear hK10
       replace hA := hA.s4 5 4 3 2
       refine wp_seq_k fun K11 hK11 => ?_
       refine any_go mixed (fun _ => true) hH ?_
       clear hH; intro w hH
       have hS := hH
       refine any_l 11 ?_
       refine p0 hA 0 1 rfl (fun w => (q_fld 0 Tryd.underlying46 rfl rfl ti3 rfl)) fun a hA => ?_
       refine r0 hA 1 3 rfl hS (fun w hH => (q_loadB hH 2 rfl (List.mem_singleton.2 rfl) Tryd.underlying3 rfl rfl rfl)) fun a hA => ?_
       refine p0 hA 2 7 rfl (fun w => (q_fld 1 Tryd.underlying46 rfl rfl ti3 rfl)) fun a hA => ?_
       refine r0 hA 3 15 rfl hS (fun w hH => (q_loadB hH 2 rfl (List.mem_singleton.2 rfl) Tryd.underlying3 rfl rfl rfl)) fun a hA => ?_
       refine p0 hA 4 31 rfl (fun w => (q_fld 2 Tryd.underlying46 rfl rfl ti22 rfl)) fun a hA => ?_
       refine r0 hA 5 63 rfl hS (fun w hH => (q_loadB hH 2 rfl (List.mem_singleton.2 rfl) Tryd.underlying22 rfl rfl rfl)) fun a hA => ?_
       refine p0 hA 7 191 rfl (fun w => (q_fld 3 Tryd.underlying46 rfl rfl ti24 rfl)) fun a hA => ?_
       refine r0 hA 8 447 rfl hS (fun w hH => (q_loadBA hH 2 rfl (List.mem_singleton.2 rfl) Tryd.underlying24 rfl ti24 rfl _ (saidC_n hnb) (by simp [hnb]))) fun a hA => ?_
       refine a1 hA 6 511 rfl (lo_call fn18 rfl (own20_any _ _ (hH.rd hvb) (by first | omega | (simp; done) | (simp; omega)))) ?_
       rintro _ w ⟨v_t55, N_t55, rfl, hO_t55, hC⟩
       replace hH := HS.call0 hH hC
       clear hC
       replace hS := hH.pick [1, 2, 3, 4] (Hs' := [_, _, _, _]) rfl
       refine ⟨fun _ _ => hS, ?_⟩
       intro a hA
       refine a1 hA 9 1023 rfl (lo_call fn17 rfl (text20_any _ _ (by first | exact hts9 _ | assumption | omega | decide) (by first | exact hts9 _ | assumption | omega | decide) _ _ (Own.rd0 hO_t55 hH 0 rfl) (by first | omega | (simp; done) | (simp; omega)) _ (by first | assumption | (rw [List.length_map]; assumption) | rfl | exact sha_length _ | (simp; done) | (simp [*]; done) | omega))) ?_
       rintro _ w ⟨v_t58, N_t58, rfl, hO_t58, hC⟩
       replace hH := HS.call0 hH hC
       clear hC
       replace hS := hH.pick [2, 3, 4, 5] (Hs' := [_, _, _, _]) rfl
       refine ⟨fun _ _ => hS, ?_⟩
       intro a hA
       refine p0 hA 10 2047 rfl (fun w => (q_assign rfl)) fun a hA => ?_
       refine a_end (by kernel_rfl) ?_ _
       refine hK11 _ _ ?_
       clear hK11
       replace hA := hA.s5 6 5 4 3 2
       refine wp_seq_k fun K12 hK12 => ?_
       refine wp_region_lit ?_
       refine sq hA (q_fld 0 Tryd.underlying46 rfl rfl ti3 rfl) rfl fun a hA => ?_
       refine sq hA (q_loadB hH 5 rfl (List.mem_singleton.2 rfl) Tryd.underlying3 rfl rfl rfl) rfl fun a hA => ?_
       refine sq hA (q_fld 0 Tryd.underlying46 rfl rfl ti3 rfl) rfl fun a hA => ?_
       refine sq hA (q_loadB hH 4 rfl (List.mem_singleton.2 rfl) Tryd.underlying3 rfl rfl rfl) rfl fun a hA => ?_
       refine sq hA (q_eqlI rfl rfl) rfl fun a hA => ?_
       refine hA.spl (fun hs63 hA => ?_) (fun hs63 hA => ?_)
       ·skip
        refine mv hA fun a hA => ?_
        refine gq hA rfl rfl (q_fld 1 Tryd.underlying46 rfl rfl ti3 rfl) rfl fun a hA => ?_
        refine gq hA rfl rfl (q_loadB hH 5 rfl (List.mem_singleton.2 rfl) Tryd.underlying3 rfl rfl rfl) rfl fun a hA => ?_
        refine gq hA rfl rfl (q_fld 1 Tryd.underlying46 rfl rfl ti3 rfl) rfl fun a hA => ?_
        refine gq hA rfl rfl (q_loadB hH 4 rfl (List.mem_singleton.2 rfl) Tryd.underlying3 rfl rfl rfl) rfl fun a hA => ?_
        refine gq hA rfl rfl (q_eqlI rfl rfl) rfl fun a hA => ?_
        refine hA.spl (fun hs69 hA => ?_) (fun hs69 hA => ?_)
        ·skip
         refine sq hA (q_pick_t rfl rfl) rfl fun a hA => ?_
         refine mv hA fun a hA => ?_
         refine gq hA rfl rfl (q_fld 2 Tryd.underlying46 rfl rfl ti22 rfl) rfl fun a hA => ?_
         refine gq hA rfl rfl (q_loadB hH 5 rfl (List.mem_singleton.2 rfl) Tryd.underlying22 rfl rfl rfl) rfl fun a hA => ?_
         refine gq hA rfl rfl (q_fld 2 Tryd.underlying46 rfl rfl ti22 rfl) rfl fun a hA => ?_
         refine gq hA rfl rfl (q_loadB hH 4 rfl (List.mem_singleton.2 rfl) Tryd.underlying22 rfl rfl rfl) rfl fun a hA => ?_
         refine gl hA rfl rfl (lo_call fn16 rfl (same_any _ _ _ _ (hH.rd hva) (hH.rd hvb) (by first | omega | (simp; done) | (simp; omega)) (by first | omega | (simp; done) | (simp; omega)))) rfl ?_
         rintro _ w ⟨rfl, hC⟩ a hA
         replace hH := HS.call0 hH hC
         clear hC
         refine hA.spl (fun hs76 hA => ?_) (fun hs76 hA => ?_)
         ·skip
          refine sq hA (q_pick_t rfl rfl) rfl fun a hA => ?_
          refine mv hA fun a hA => ?_
          refine gq hA rfl rfl (q_fld 3 Tryd.underlying46 rfl rfl ti24 rfl) rfl fun a hA => ?_
          refine gq hA rfl rfl (q_loadBA hH 5 rfl (List.mem_singleton.2 rfl) Tryd.underlying24 rfl ti24 rfl _ (saidC_n hna) (by simp [hna])) rfl fun a hA => ?_
          refine gq hA rfl rfl (q_fld 3 Tryd.underlying46 rfl rfl ti24 rfl) rfl fun a hA => ?_
          refine gq hA rfl rfl (q_loadBA hH 4 rfl (List.mem_singleton.2 rfl) Tryd.underlying24 rfl ti24 rfl _ (saidC_n hnb) (by simp [hnb])) rfl fun a hA => ?_
          refine gq hA rfl rfl (q_eqlA8 eqa24 rfl rfl rfl rfl (by first | assumption | (rw [List.length_map]; assumption) | rfl | exact sha_length _ | (simp; done) | (simp [*]; done) | omega) (by first | assumption | (rw [List.length_map]; assumption) | rfl | exact sha_length _ | (simp; done) | (simp [*]; done) | omega)) rfl fun a hA => ?_
          refine hA.spl (fun hs83 hA => ?_) (fun hs83 hA => ?_)
          ·skip
           refine sq hA (q_pick_t rfl rfl) rfl fun a hA => ?_
           refine asg hA fun a hA => ?_
           refine wpList_nil ?_
           refine hK12 _ _ ?_
           clear hK12
           replace hA := hA.s4 7 6 5 4
           refine wp_seq_k fun K13 hK13 => ?_
           refine wp_region_lit ?_
           refine mv hA fun a hA => ?_
           refine mv hA fun a hA => ?_
           refine sl hA (lo_call fn16 rfl (same_any _ _ _ _ (Own.rd0 hO_t48 hH 2 rfl) (Own.rd0 hO_t58 hH 0 rfl) (by first | omega | (simp; done) | (simp; omega)) (by first | omega | (simp; done) | (simp; omega)))) rfl ?_
           rintro _ w ⟨rfl, hC⟩ a hA
           replace hH := HS.call0 hH hC
           clear hC
           refine mv hA fun a hA => ?_
           refine sq hA (q_eqlB Tryd.underlying4 rfl rfl) rfl fun a hA => ?_
           replace hA := hA.decT (by first | exact decide_eq_false (fun e => by obtain ⟨h1, h2, h3, h4⟩ := txV_inj (by omega) (by omega) (by omega) (by omega) (by omega) (by omega) e; first | omega | contradiction) | exact decide_eq_true (by simp only [*]))
           refine mv hA fun a hA => ?_
           refine gl hA rfl rfl (lo_call fn15 rfl (awake20_any (hg.mono0 hH))) rfl ?_
           rintro _ w ⟨rfl, hC⟩ a hA
           replace hH := HS.call0 hH hC
           clear hC
           refine sq hA (q_pick_t rfl rfl) rfl fun a hA => ?_
           refine asg hA fun a hA => ?_
           refine wpList_nil ?_
           refine hK13 _ _ ?_
           clear hK13
           replace hA := hA.s1 4
           refine wp_ret ?_
           refine post_ret hA (res_1 rfl hA rfl) ?_
           replace hH := hH.pick [] (Hs' := []) rfl
           exact ⟨_, rfl, rfl, hH⟩
          ·skip
           refine sq hA (q_pick_t rfl rfl) rfl fun a hA => ?_
           refine asg hA fun a hA => ?_
           refine wpList_nil ?_
           refine hK12 _ _ ?_
           clear hK12
           replace hA := hA.s4 7 6 5 4
           refine wp_seq_k fun K14 hK14 => ?_
           refine wp_region_lit ?_
           refine mv hA fun a hA => ?_
           refine mv hA fun a hA => ?_
           refine sl hA (lo_call fn16 rfl (same_any _ _ _ _ (Own.rd0 hO_t48 hH 2 rfl) (Own.rd0 hO_t58 hH 0 rfl) (by first | omega | (simp; done) | (simp; omega)) (by first | omega | (simp; done) | (simp; omega)))) rfl ?_
           rintro _ w ⟨rfl, hC⟩ a hA
           replace hH := HS.call0 hH hC
           clear hC
           refine mv hA fun a hA => ?_
           refine sq hA (q_eqlB Tryd.underlying4 rfl rfl) rfl fun a hA => ?_
           replace hA := hA.decT (by first | exact decide_eq_false (fun e => by obtain ⟨h1, h2, h3, h4⟩ := txV_inj (by omega) (by omega) (by omega) (by omega) (by omega) (by omega) e; first | omega | contradiction) | exact decide_eq_true (by simp only [*]))
           refine mv hA fun a hA => ?_
           refine gl hA rfl rfl (lo_call fn15 rfl (awake20_any (hg.mono0 hH))) rfl ?_
           rintro _ w ⟨rfl, hC⟩ a hA
           replace hH := HS.call0 hH hC
           clear hC
           refine sq hA (q_pick_t rfl rfl) rfl fun a hA => ?_
           refine asg hA fun a hA => ?_
           refine wpList_nil ?_
           refine hK14 _ _ ?_
           clear hK14
           replace hA := hA.s1 4
           refine wp_ret ?_
           refine post_ret hA (res_1 rfl hA rfl) ?_
           replace hH := hH.pick [] (Hs' := []) rfl
           exact ⟨_, rfl, rfl, hH⟩
         ·skip
          refine sq hA (q_pick_t rfl rfl) rfl fun a hA => ?_
          refine mv hA fun a hA => ?_
          refine gs hA rfl rfl rfl rfl fun a hA => ?_
          refine gs hA rfl rfl rfl rfl fun a hA => ?_
          refine gs hA rfl rfl rfl rfl fun a hA => ?_
          refine gs hA rfl rfl rfl rfl fun a hA => ?_
          refine gs hA rfl rfl rfl rfl fun a hA => ?_
          refine sq hA (q_pick_f rfl rfl) rfl fun a hA => ?_
          refine asg hA fun a hA => ?_
          refine wpList_nil ?_
          refine hK12 _ _ ?_
          clear hK12
          replace hA := hA.s4 7 6 5 4
          refine wp_seq_k fun K15 hK15 => ?_
          refine wp_region_lit ?_
          refine mv hA fun a hA => ?_
          refine mv hA fun a hA => ?_
          refine sl hA (lo_call fn16 rfl (same_any _ _ _ _ (Own.rd0 hO_t48 hH 2 rfl) (Own.rd0 hO_t58 hH 0 rfl) (by first | omega | (simp; done) | (simp; omega)) (by first | omega | (simp; done) | (simp; omega)))) rfl ?_
          rintro _ w ⟨rfl, hC⟩ a hA
          replace hH := HS.call0 hH hC
          clear hC
          refine mv hA fun a hA => ?_
          refine sq hA (q_eqlB Tryd.underlying4 rfl rfl) rfl fun a hA => ?_
          replace hA := hA.decT (by first | exact decide_eq_false (fun e => by obtain ⟨h1, h2, h3, h4⟩ := txV_inj (by omega) (by omega) (by omega) (by omega) (by omega) (by omega) e; first | omega | contradiction) | exact decide_eq_true (by simp only [*]))
          refine mv hA fun a hA => ?_
          refine gl hA rfl rfl (lo_call fn15 rfl (awake20_any (hg.mono0 hH))) rfl ?_
          rintro _ w ⟨rfl, hC⟩ a hA
          replace hH := HS.call0 hH hC
          clear hC
          refine sq hA (q_pick_t rfl rfl) rfl fun a hA => ?_
          refine asg hA fun a hA => ?_
          refine wpList_nil ?_
          refine hK15 _ _ ?_
          clear hK15
          replace hA := hA.s1 4
          refine wp_ret ?_
          refine post_ret hA (res_1 rfl hA rfl) ?_
          replace hH := hH.pick [] (Hs' := []) rfl
          exact ⟨_, rfl, rfl, hH⟩
        ·skip
         refine sq hA (q_pick_t rfl rfl) rfl fun a hA => ?_
         refine mv hA fun a hA => ?_
         refine gs hA rfl rfl rfl rfl fun a hA => ?_
         refine gs hA rfl rfl rfl rfl fun a hA => ?_
         refine gs hA rfl rfl rfl rfl fun a hA => ?_
         refine gs hA rfl rfl rfl rfl fun a hA => ?_
         refine gs hA rfl rfl rfl rfl fun a hA => ?_
         refine sq hA (q_pick_f rfl rfl) rfl fun a hA => ?_
         refine mv hA fun a hA => ?_
         refine gs hA rfl rfl rfl rfl fun a hA => ?_
         refine gs hA rfl rfl rfl rfl fun a hA => ?_
         refine gs hA rfl rfl rfl rfl fun a hA => ?_
         refine gs hA rfl rfl rfl rfl fun a hA => ?_
         refine gs hA rfl rfl rfl rfl fun a hA => ?_
         refine sq hA (q_pick_f rfl rfl) rfl fun a hA => ?_
         refine asg hA fun a hA => ?_
         refine wpList_nil ?_
         refine hK12 _ _ ?_
         clear hK12
         replace hA := hA.s4 7 6 5 4
         refine wp_seq_k fun K16 hK16 => ?_
         refine wp_region_lit ?_
         refine mv hA fun a hA => ?_
         refine mv hA fun a hA => ?_
         refine sl hA (lo_call fn16 rfl (same_any _ _ _ _ (Own.rd0 hO_t48 hH 2 rfl) (Own.rd0 hO_t58 hH 0 rfl) (by first | omega | (simp; done) | (simp; omega)) (by first | omega | (simp; done) | (simp; omega)))) rfl ?_
         rintro _ w ⟨rfl, hC⟩ a hA
         replace hH := HS.call0 hH hC
         clear hC
         refine mv hA fun a hA => ?_
         refine sq hA (q_eqlB Tryd.underlying4 rfl rfl) rfl fun a hA => ?_
         replace hA := hA.decT (by first | exact decide_eq_false (fun e => by obtain ⟨h1, h2, h3, h4⟩ := txV_inj (by omega) (by omega) (by omega) (by omega) (by omega) (by omega) e; first | omega | contradiction) | exact decide_eq_true (by simp only [*]))
         refine mv hA fun a hA => ?_
         refine gl hA rfl rfl (lo_call fn15 rfl (awake20_any (hg.mono0 hH))) rfl ?_
         rintro _ w ⟨rfl, hC⟩ a hA
         replace hH := HS.call0 hH hC
         clear hC
         refine sq hA (q_pick_t rfl rfl) rfl fun a hA => ?_
         refine asg hA fun a hA => ?_
         refine wpList_nil ?_
         refine hK16 _ _ ?_
         clear hK16
         replace hA := hA.s1 4
         refine wp_ret ?_
         refine post_ret hA (res_1 rfl hA rfl) ?_
         replace hH := hH.pick [] (Hs' := []) rfl
         exact ⟨_, rfl, rfl, hH⟩
       ·skip
        refine mv hA fun a hA => ?_
        refine gs hA rfl rfl rfl rfl fun a hA => ?_
        refine gs hA rfl rfl rfl rfl fun a hA => ?_
        refine gs hA rfl rfl rfl rfl fun a hA => ?_
        refine gs hA rfl rfl rfl rfl fun a hA => ?_
        refine gs hA rfl rfl rfl rfl fun a hA => ?_
        refine sq hA (q_pick_f rfl rfl) rfl fun a hA => ?_
        refine mv hA fun a hA => ?_
        refine gs hA rfl rfl rfl rfl fun a hA => ?_
        refine gs hA rfl rfl rfl rfl fun a hA => ?_
        refine gs hA rfl rfl rfl rfl fun a hA => ?_
        refine gs hA rfl rfl rfl rfl fun a hA => ?_
        refine gs hA rfl rfl rfl rfl fun a hA => ?_
        refine sq hA (q_pick_f rfl rfl) rfl fun a hA => ?_
        refine mv hA fun a hA => ?_
        refine gs hA rfl rfl rfl rfl fun a hA => ?_
        refine gs hA rfl rfl rfl rfl fun a hA => ?_
        refine gs hA rfl rfl rfl rfl fun a hA => ?_
        refine gs hA rfl rfl rfl rfl fun a hA => ?_
        refine gs hA rfl rfl rfl rfl fun a hA => ?_
        refine sq hA (q_pick_f rfl rfl) rfl fun a hA => ?_
        refine asg hA fun a hA => ?_
        refine wpList_nil ?_
        refine hK12 _ _ ?_
        clear hK12
        replace hA := hA.s4 7 6 5 4
        refine wp_seq_k fun K17 hK17 => ?_
        refine wp_region_lit ?_
        refine mv hA fun a hA => ?_
        refine mv hA fun a hA => ?_
        refine sl hA (lo_call fn16 rfl (same_any _ _ _ _ (Own.rd0 hO_t48 hH 2 rfl) (Own.rd0 hO_t58 hH 0 rfl) (by first | omega | (simp; done) | (simp; omega)) (by first | omega | (simp; done) | (simp; omega)))) rfl ?_
        rintro _ w ⟨rfl, hC⟩ a hA
        replace hH := HS.call0 hH hC
        clear hC
        refine mv hA fun a hA => ?_
        refine sq hA (q_eqlB Tryd.underlying4 rfl rfl) rfl fun a hA => ?_
        replace hA := hA.decT (by first | exact decide_eq_false (fun e => by obtain ⟨h1, h2, h3, h4⟩ := txV_inj (by omega) (by omega) (by omega) (by omega) (by omega) (by omega) e; first | omega | contradiction) | exact decide_eq_true (by simp only [*]))
        refine mv hA fun a hA => ?_
        refine gl hA rfl rfl (lo_call fn15 rfl (awake20_any (hg.mono0 hH))) rfl ?_
        rintro _ w ⟨rfl, hC⟩ a hA
        replace hH := HS.call0 hH hC
        clear hC
        refine sq hA (q_pick_t rfl rfl) rfl fun a hA => ?_
        refine asg hA fun a hA => ?_
        refine wpList_nil ?_
        refine hK17 _ _ ?_
        clear hK17
        replace hA := hA.s1 4
        refine wp_ret ?_
        refine post_ret hA (res_1 rfl hA rfl) ?_
        replace hH := hH.pick [] (Hs' := []) rfl
        exact ⟨_, rfl, rfl, hH⟩

set_option maxHeartbeats 1000000 in
theorem resultSigned_any {w0 : World} {lv : Nat} (hg : Gl lv w0) (s : Bs) (hsd : s.length = 32) (ts : List Int) (hts : ts.length = 6) (hts9 : ∀ i, ts.getD i 0 ≤ 9223372036854775807) (v : Value) (l : Bs) (hr : By [] w0 v l) (hl : l.length ≤ 1048576) (nn : Bs) (hnn : nn.length = 32) (n h : Int) :
    Calls Tryd.prog 6 #[(.agg ((s).map B8).toArray), (.agg ((ts).map I).toArray), v, (.agg ((nn).map B8).toArray), I n, I h] w0 (Ret fun r w' => r = .bool true ∧ HS [] w0 w' []) := by
 have hH := HS.start w0
 refine start (n := 96) (E := [(0, _), (1, _), (2, _), (3, _), (4, _), (5, _)]) Tryd.func6 rfl rfl rfl (args_look rfl) ?_
 intro a hA
 refine wp_seq_k fun K1 hK1 => ?_
 refine wp_region_lit ?_
 refine sl hA (lo_boxA hH rfl) rfl ?_
 clear hH; rintro _ w ⟨b_t6, rfl, hH⟩ a hA
 refine sl hA (lo_boxA hH rfl) rfl ?_
 clear hH; rintro _ w ⟨b_t7, rfl, hH⟩ a hA
 refine sl hA (lo_boxA hH rfl) rfl ?_
 clear hH; rintro _ w ⟨b_t9, rfl, hH⟩ a hA
 refine asg hA fun a hA => ?_
 refine wpList_nil ?_
 refine hK1 _ _ ?_
 clear hK1
 replace hA := hA.s7 12 9 7 6 2 4 5
 refine wp_seq_k fun K2 hK2 => ?_
 refine wp_seq_k fun K3 hK3 => ?_
 refine any_go mixed (fun _ => true) hH ?_
 clear hH; intro w hH
 have hS := hH
 refine any_l 26 ?_
 refine p0 hA 0 1 rfl (fun w => (q_move rfl)) fun a hA => ?_
 refine p0 hA 1 3 rfl (fun w => (q_move rfl)) fun a hA => ?_
 refine a1 hA 2 7 rfl (lo_call fn23 rfl (glaw20_any _ _)) ?_
 rintro _ w ⟨rfl, hC⟩
 replace hH := HS.call0 hH hC
 clear hC
 replace hS := hH.pick [0, 1, 2] (Hs' := [_, _, _]) rfl
 refine ⟨fun _ _ => hS, ?_⟩
 intro a hA
 refine hA.spl (fun hs20 hA => ?_) (fun hs20 hA => ?_)
 ·skip
  refine p0 hA 3 15 rfl (fun w => (q_move rfl)) fun a hA => ?_
  refine ps hA 4 31 rfl rfl rfl fun a hA => ?_
  refine ps hA 5 63 rfl rfl rfl fun a hA => ?_
  refine ps hA 6 127 rfl rfl rfl fun a hA => ?_
  refine ps hA 7 255 rfl rfl rfl fun a hA => ?_
  refine p0 hA 8 511 rfl (fun w => (q_pick_t rfl rfl)) fun a hA => ?_
  refine p0 hA 9 1023 rfl (fun w => (q_move rfl)) fun a hA => ?_
  refine ps hA 10 2047 rfl rfl rfl fun a hA => ?_
  refine ps hA 11 4095 rfl rfl rfl fun a hA => ?_
  refine ps hA 12 8191 rfl rfl rfl fun a hA => ?_
  refine p0 hA 13 16383 rfl (fun w => (q_pick_t rfl rfl)) fun a hA => ?_
  refine p0 hA 14 32767 rfl (fun w => (q_move rfl)) fun a hA => ?_
  refine ps hA 15 65535 rfl rfl rfl fun a hA => ?_
  refine ps hA 16 131071 rfl rfl rfl fun a hA => ?_
  refine ps hA 17 262143 rfl rfl rfl fun a hA => ?_
  refine p0 hA 18 524287 rfl (fun w => (q_pick_t rfl rfl)) fun a hA => ?_
  refine p0 hA 19 1048575 rfl (fun w => (q_move rfl)) fun a hA => ?_
  refine ps hA 20 2097151 rfl rfl rfl fun a hA => ?_
  refine ps hA 21 4194303 rfl rfl rfl fun a hA => ?_
  refine ps hA 22 8388607 rfl rfl rfl fun a hA => ?_
  refine ps hA 23 16777215 rfl rfl rfl fun a hA => ?_
  refine ps hA 24 33554431 rfl rfl rfl fun a hA => ?_
  refine p0 hA 25 67108863 rfl (fun w => (q_pick_t rfl rfl)) fun a hA => ?_
  refine a_end (by kernel_rfl) ?_ _
  refine hK3 _ _ ?_
  clear hK3
  replace hA := hA.s8 43 12 9 7 6 2 4 5
  refine cond_t hA rfl ?_
  refine wp_seq_k fun K4 hK4 => ?_
  refine wp_region_lit ?_
  refine sl hA (lo_call fn15 rfl (awake20_any (hg.mono0 hH))) rfl ?_
  rintro _ w ⟨rfl, hC⟩ a hA
  replace hH := HS.call0 hH hC
  clear hC
  refine asg hA fun a hA => ?_
  refine wpList_nil ?_
  refine hK4 _ _ ?_
  clear hK4
  replace hA := hA.s7 12 9 7 6 2 4 5
  refine wp_ret ?_
  refine then_ret ?_
  refine post_ret hA (res_1 rfl hA rfl) ?_
  replace hH := hH.pick [] (Hs' := []) rfl
  exact ⟨_, rfl, rfl, hH⟩
 ·skip
  refine p0 hA 3 15 rfl (fun w => (q_move rfl)) fun a hA => ?_
  refine pg hA 4 31 rfl rfl rfl (fun w => (q_move rfl)) fun a hA => ?_
  refine pg hA 5 63 rfl rfl rfl (fun w => (q_move rfl)) fun a hA => ?_
  refine g1 hA 6 127 rfl rfl rfl (lo_call fn26 rfl (refright7_any _ _)) ?_
  rintro _ w ⟨rfl, hC⟩
  replace hH := HS.call0 hH hC
  clear hC
  replace hS := hH.pick [0, 1, 2] (Hs' := [_, _, _]) rfl
  refine ⟨fun _ _ => hS, ?_⟩
  intro a hA
  refine hA.spl (fun hs24 hA => ?_) (fun hs24 hA => ?_)
  ·skip
   have hR : R7 n h := by assumption
   obtain ⟨n, rfl⟩ : ∃ m : Nat, n = m := ⟨n.toNat, by unfold R7 R5 at *; omega⟩
   obtain ⟨h, rfl⟩ : ∃ m : Nat, h = m := ⟨h.toNat, by unfold R7 R5 at *; omega⟩
   have hn5 := hR.1
   have hn1 := hR.1.1
   have hn2 := hR.1.2
   have hh6 : h ≤ 6 := by have := hR.2.2; omega
   have h64 := pow_le64 hh6
   have hp0 : 0 < 2 ^ h := Nat.pow_pos (by decide)
   have hPl := pubK_length s n h
   refine pg hA 7 255 rfl rfl rfl (fun w => (q_not rfl)) fun a hA => ?_
   refine p0 hA 8 511 rfl (fun w => (q_pick_f rfl rfl)) fun a hA => ?_
   refine p0 hA 9 1023 rfl (fun w => (q_move rfl)) fun a hA => ?_
   refine pg hA 10 2047 rfl rfl rfl (fun w => (q_move rfl)) fun a hA => ?_
   refine pg hA 11 4095 rfl rfl rfl (fun w => (q_len Tryd.underlying22 rfl (Rd.shp hr))) fun a hA => ?_
   refine pg hA 12 8191 rfl rfl rfl (fun w => (q_gtrI (n := 32) rfl rfl)) fun a hA => ?_
   refine hA.spl (fun hs30 hA => ?_) (fun hs30 hA => ?_)
   ·skip
    refine p0 hA 13 16383 rfl (fun w => (q_pick_f rfl rfl)) fun a hA => ?_
    refine p0 hA 14 32767 rfl (fun w => (q_move rfl)) fun a hA => ?_
    refine ps hA 15 65535 rfl rfl rfl fun a hA => ?_
    refine ps hA 16 131071 rfl rfl rfl fun a hA => ?_
    refine ps hA 17 262143 rfl rfl rfl fun a hA => ?_
    refine p0 hA 18 524287 rfl (fun w => (q_pick_t rfl rfl)) fun a hA => ?_
    refine p0 hA 19 1048575 rfl (fun w => (q_move rfl)) fun a hA => ?_
    refine ps hA 20 2097151 rfl rfl rfl fun a hA => ?_
    refine ps hA 21 4194303 rfl rfl rfl fun a hA => ?_
    refine ps hA 22 8388607 rfl rfl rfl fun a hA => ?_
    refine ps hA 23 16777215 rfl rfl rfl fun a hA => ?_
    refine ps hA 24 33554431 rfl rfl rfl fun a hA => ?_
    refine p0 hA 25 67108863 rfl (fun w => (q_pick_t rfl rfl)) fun a hA => ?_
    refine a_end (by kernel_rfl) ?_ _
    refine hK3 _ _ ?_
    clear hK3
    replace hA := hA.s8 43 12 9 7 6 2 4 5
    refine cond_t hA rfl ?_
    refine wp_seq_k fun K5 hK5 => ?_
    refine wp_region_lit ?_
    refine sl hA (lo_call fn15 rfl (awake20_any (hg.mono0 hH))) rfl ?_
    rintro _ w ⟨rfl, hC⟩ a hA
    replace hH := HS.call0 hH hC
    clear hC
    refine asg hA fun a hA => ?_
    refine wpList_nil ?_
    refine hK5 _ _ ?_
    clear hK5
    replace hA := hA.s7 12 9 7 6 2 4 5
    refine wp_ret ?_
    refine then_ret ?_
    refine post_ret hA (res_1 rfl hA rfl) ?_
    replace hH := hH.pick [] (Hs' := []) rfl
    exact ⟨_, rfl, rfl, hH⟩
   ·skip
    refine p0 hA 13 16383 rfl (fun w => (q_pick_f rfl rfl)) fun a hA => ?_
    refine p0 hA 14 32767 rfl (fun w => (q_move rfl)) fun a hA => ?_
    refine pg hA 15 65535 rfl rfl rfl (fun w => (q_fld 3 Tryd.underlying39 rfl rfl ti3 rfl)) fun a hA => ?_
    refine rg hA 16 131071 rfl rfl rfl hS (fun w hH => (q_loadBm ((0 : Int)) hH 1 rfl Tryd.underlying3 rfl rfl (by first | omega | (simp; done) | (simp; omega) | (rw [List.length_map]; assumption) | assumption | rfl | (simp [*]; done) | (simp [*]; omega)))) fun a hA => ?_
    refine pg hA 17 262143 rfl rfl rfl (fun w => (q_lssI (n := 0) rfl rfl)) fun a hA => ?_
    refine hA.spl (fun hs35 hA => ?_) (fun hs35 hA => ?_)
    ·skip
     refine p0 hA 18 524287 rfl (fun w => (q_pick_f rfl rfl)) fun a hA => ?_
     refine p0 hA 19 1048575 rfl (fun w => (q_move rfl)) fun a hA => ?_
     refine ps hA 20 2097151 rfl rfl rfl fun a hA => ?_
     refine ps hA 21 4194303 rfl rfl rfl fun a hA => ?_
     refine ps hA 22 8388607 rfl rfl rfl fun a hA => ?_
     refine ps hA 23 16777215 rfl rfl rfl fun a hA => ?_
     refine ps hA 24 33554431 rfl rfl rfl fun a hA => ?_
     refine p0 hA 25 67108863 rfl (fun w => (q_pick_t rfl rfl)) fun a hA => ?_
     refine a_end (by kernel_rfl) ?_ _
     refine hK3 _ _ ?_
     clear hK3
     replace hA := hA.s8 43 12 9 7 6 2 4 5
     refine cond_t hA rfl ?_
     refine wp_seq_k fun K6 hK6 => ?_
     refine wp_region_lit ?_
     refine sl hA (lo_call fn15 rfl (awake20_any (hg.mono0 hH))) rfl ?_
     rintro _ w ⟨rfl, hC⟩ a hA
     replace hH := HS.call0 hH hC
     clear hC
     refine asg hA fun a hA => ?_
     refine wpList_nil ?_
     refine hK6 _ _ ?_
     clear hK6
     replace hA := hA.s7 12 9 7 6 2 4 5
     refine wp_ret ?_
     refine then_ret ?_
     refine post_ret hA (res_1 rfl hA rfl) ?_
     replace hH := hH.pick [] (Hs' := []) rfl
     exact ⟨_, rfl, rfl, hH⟩
    ·skip
     refine p0 hA 18 524287 rfl (fun w => (q_pick_f rfl rfl)) fun a hA => ?_
     refine p0 hA 19 1048575 rfl (fun w => (q_move rfl)) fun a hA => ?_
     refine pg hA 20 2097151 rfl rfl rfl (fun w => (q_fld 3 Tryd.underlying39 rfl rfl ti3 rfl)) fun a hA => ?_
     refine rg hA 21 4194303 rfl rfl rfl hS (fun w hH => (q_loadBm ((0 : Int)) hH 1 rfl Tryd.underlying3 rfl rfl (by first | omega | (simp; done) | (simp; omega) | (rw [List.length_map]; assumption) | assumption | rfl | (simp [*]; done) | (simp [*]; omega)))) fun a hA => ?_
     refine pg hA 22 8388607 rfl rfl rfl (fun w => (q_move rfl)) fun a hA => ?_
     refine pg hA 23 16777215 rfl rfl rfl (fun w => (q_shlI (m := 1) (n := h) ((2 ^ h : Nat) : Int) rfl rfl (by omega) (by push_cast; rfl) (by omega))) fun a hA => ?_
     rw [Int.one_mul] at hA
     refine pg hA 24 33554431 rfl rfl rfl (fun w => (q_geqI rfl rfl)) fun a hA => ?_
     refine hA.spl (fun hs42 hA => ?_) (fun hs42 hA => ?_)
     ·skip
      refine p0 hA 25 67108863 rfl (fun w => (q_pick_f rfl rfl)) fun a hA => ?_
      refine a_end (by kernel_rfl) ?_ _
      refine hK3 _ _ ?_
      clear hK3
      replace hA := hA.s8 43 12 9 7 6 2 4 5
      refine cond_t hA rfl ?_
      refine wp_seq_k fun K7 hK7 => ?_
      refine wp_region_lit ?_
      refine sl hA (lo_call fn15 rfl (awake20_any (hg.mono0 hH))) rfl ?_
      rintro _ w ⟨rfl, hC⟩ a hA
      replace hH := HS.call0 hH hC
      clear hC
      refine asg hA fun a hA => ?_
      refine wpList_nil ?_
      refine hK7 _ _ ?_
      clear hK7
      replace hA := hA.s7 12 9 7 6 2 4 5
      refine wp_ret ?_
      refine then_ret ?_
      refine post_ret hA (res_1 rfl hA rfl) ?_
      replace hH := hH.pick [] (Hs' := []) rfl
      exact ⟨_, rfl, rfl, hH⟩
     ·skip
      obtain ⟨x, hx⟩ : ∃ x : Nat, ts.getD 3 0 = (x : Int) := ⟨(ts.getD 3 0).toNat, by omega⟩
      have hxl := txV_len (j := (max (ts.getD 0 0) 0).toNat) (a := (max (ts.getD 1 0) 0).toNat) (v := l) (nonce := nn) (by have := hts9 0; omega) (by have := hts9 1; omega) (by omega) hnn
      refine p0 hA 25 67108863 rfl (fun w => (q_pick_f rfl rfl)) fun a hA => ?_
      refine a_end (by kernel_rfl) ?_ _
      refine hK3 _ _ ?_
      clear hK3
      replace hA := hA.s8 43 12 9 7 6 2 4 5
      refine cond_f hA rfl ?_
      refine wp_skip ?_
      refine hK2 _ _ ?_
      clear hK2
      replace hA := hA.s7 12 9 7 6 2 4 5
      refine wp_seq_k fun K8 hK8 => ?_
      refine wp_region_lit ?_
      refine sq hA (q_loadW hH 2 rfl Tryd.underlying24 rfl ti24 rfl (by first | omega | (simp; done) | (simp; omega) | (rw [List.length_map]; assumption) | assumption | rfl | (simp [*]; done) | (simp [*]; omega))) rfl fun a hA => ?_
      refine mv hA fun a hA => ?_
      refine mv hA fun a hA => ?_
      refine sl hA (lo_call fn27 rfl (new7_any (hg.mono0 hH) s hsd n h hR)) rfl ?_
      rintro _ w ⟨b_k, b_s, v_l, N_l, rfl, hO_l, hC⟩ a hA
      replace hH := HS.call0 hH hC
      clear hC
      have hshp : Shp v_l (2 ^ (h)) := by have := Own.shp hO_l; rwa [leavesK_length] at this
      refine mv hA fun a hA => ?_
      refine sq hA (q_extract rfl rfl) rfl fun a hA => ?_
      refine sq hA (q_extract rfl rfl) rfl fun a hA => ?_
      refine asg hA fun a hA => ?_
      refine asg hA fun a hA => ?_
      refine wpList_nil ?_
      refine hK8 _ _ ?_
      clear hK8
      replace hA := hA.s8 14 13 12 9 7 2 4 5
      refine wp_seq_k fun K9 hK9 => ?_
      refine wp_region_lit ?_
      refine mv hA fun a hA => ?_
      refine sq hA (q_fld 3 Tryd.underlying39 rfl rfl ti3 rfl) rfl fun a hA => ?_
      refine sq hA (q_loadBm ((0 : Int)) hH 4 rfl Tryd.underlying3 rfl rfl (by first | omega | (simp; done) | (simp; omega) | (rw [List.length_map]; assumption) | assumption | rfl | (simp [*]; done) | (simp [*]; omega))) rfl fun a hA => ?_
      rw [hx] at hA
      refine sl hA (lo_call fn28 rfl (skip7_any _ _ _ _ hPl _ _ _ hshp (by first | exact Nat.zero_le _ | omega | decide) (by first | assumption | omega | decide) (x) (HS.handed (Ns1 := [_]) hH))) rfl ?_
      rintro _ w ⟨rfl, hC⟩ a hA
      replace hH := HS.call (Ns1 := [_]) hH hC
      clear hC
      rw [show skT (2 ^ h) 0 (x : Int) = (0, x) from skT_ok (by omega) (by omega)] at hA hH
      refine asg hA fun a hA => ?_
      refine wpList_nil ?_
      refine hK9 _ _ ?_
      clear hK9
      replace hA := hA.s9 15 14 13 12 9 7 2 4 5
      refine wp_seq_k fun K10 hK10 => ?_
      refine any_goI mixed [1, 2, 3, 4, 5] (Hs' := [_, _, _, _, _]) rfl (fun j => !(Nat.beq j 8 || Nat.beq j 14)) hH ?_
      clear hH; intro w hH hS
      refine any_l 16 ?_
      refine p0 hA 0 1 rfl (fun w => (q_move rfl)) fun a hA => ?_
      refine p0 hA 1 3 rfl (fun w => (q_fld 0 Tryd.underlying39 rfl rfl ti3 rfl)) fun a hA => ?_
      refine r0 hA 2 7 rfl hS (fun w hH => (q_loadBm ((0 : Int)) hH 3 rfl Tryd.underlying3 rfl rfl (by first | omega | (simp; done) | (simp; omega) | (rw [List.length_map]; assumption) | assumption | rfl | (simp [*]; done) | (simp [*]; omega)))) fun a hA => ?_
      refine p0 hA 3 15 rfl (fun w => (q_fld 1 Tryd.underlying39 rfl rfl ti3 rfl)) fun a hA => ?_
      refine r0 hA 4 31 rfl hS (fun w hH => (q_loadBm ((0 : Int)) hH 3 rfl Tryd.underlying3 rfl rfl (by first | omega | (simp; done) | (simp; omega) | (rw [List.length_map]; assumption) | assumption | rfl | (simp [*]; done) | (simp [*]; omega)))) fun a hA => ?_
      refine p0 hA 5 63 rfl (fun w => (q_move rfl)) fun a hA => ?_
      refine r0 hA 7 191 rfl hS (fun w hH => (q_loadW hH 2 rfl Tryd.underlying24 rfl ti24 rfl (by first | omega | (simp; done) | (simp; omega) | (rw [List.length_map]; assumption) | assumption | rfl | (simp [*]; done) | (simp [*]; omega)))) fun a hA => ?_
      refine a_ch2 (i := 6) (j := 13) (by kernel_rfl) ?_ ?_
      ·skip
       refine o1 hA 6 255 rfl (lo_call fn18 rfl (own20_any _ _ (hH.rd hr) (by first | omega | (simp; done) | (simp; omega)))) ?_
       rintro _ w ⟨v_t63, N_t63, rfl, hO_t63, hC⟩
       replace hH := HS.call0 hH hC
       clear hC
       replace hS := hH.pick [2, 3, 4, 5, 6] (Hs' := [_, _, _, _, _]) rfl
       refine ⟨fun _ _ => hS, ?_⟩
       intro a hA
       refine a_ch2 (i := 8) (j := 13) (by kernel_rfl) ?_ ?_
       ·skip
        refine o1n hA 8 511 rfl (lo_call fn17 rfl (text20_any _ _ (by first | exact hts9 _ | assumption | omega | decide) (by first | exact hts9 _ | assumption | omega | decide) _ _ (Own.rd0 hO_t63 hH 0 rfl) (by first | omega | (simp; done) | (simp; omega)) _ (by first | assumption | (rw [List.length_map]; assumption) | rfl | exact sha_length _ | (simp; done) | (simp [*]; done) | omega))) ?_
        rintro _ w ⟨v_t65, N_t65, rfl, hO_t65, hC⟩
        replace hH := HS.call0 hH hC
        clear hC
        intro a hA
        refine a_ch2 (i := 9) (j := 13) (by kernel_rfl) ?_ ?_
        ·skip
         replace hH := hH.pick [2, 0, 1, 3, 4, 5, 6, 7] (Hs' := [_, _, _, _, _, _, _, _]) rfl
         refine o1 hA 9 1023 rfl (lo_call fn29 rfl (sign7_any (hg.mono0 hH) b_k b_s (hg.ng NG.nil hH) s hsd n h hR v_l (HS.boxDM (Ns1 := [_]) hH 2 rfl hsd) (Own.rdM hO_l (Ns1 := [_]) hH 3 rfl) x (by omega) _ (txV (max (ts.getD 0 0) 0).toNat (max (ts.getD 1 0) 0).toNat l nn) (Own.rdM hO_t65 (Ns1 := [_]) hH 0 rfl) (by first | omega | (simp; done) | (simp; omega)) (HS.handed (Ns1 := [_]) hH))) ?_
         rintro _ w ⟨v_ot66, v_pt66, N_ot66, N_pt66, rfl, hOo_t66, hOp_t66, hC⟩
         replace hH := HS.call (Ns1 := [_]) hH hC
         clear hC
         have hdo_t66 := otsK_dg s n x (txV (max (ts.getD 0 0) 0).toNat (max (ts.getD 1 0) 0).toNat l nn)
         have hdp_t66 := pthK_dg s n (show x < 2 ^ h by first | assumption | omega | simp)
         have hlo_t66 := otsK_length s n x (txV (max (ts.getD 0 0) 0).toNat (max (ts.getD 1 0) 0).toNat l nn)
         have hlp_t66 := pthK_length s n h x
         replace hS := hH.pick [5, 6, 7, 8, 9] (Hs' := [_, _, _, _, _]) rfl
         refine ⟨fun _ _ => hS, ?_⟩
         intro a hA
         refine p0 hA 10 2047 rfl (fun w => (q_move rfl)) fun a hA => ?_
         refine p0 hA 11 4095 rfl (fun w => (q_extract rfl rfl)) fun a hA => ?_
         refine p0 hA 12 8191 rfl (fun w => (q_extract rfl rfl)) fun a hA => ?_
         refine a1 hA 13 16383 rfl (lo_allocA hH ti27) ?_
         clear hH; rintro _ w ⟨b_t16, rfl, hH⟩
         replace hS := hH.pick [6, 7, 8, 9, 10] (Hs' := [_, _, _, _, _]) rfl
         refine ⟨fun _ _ => hS, ?_⟩
         intro a hA
         refine a0n hA 14 32767 rfl (lo_storeAm hH ti27 rfl rfl (rfl) (rfl) (ones_cons rfl (ones_cons (Own.one hOo_t66) (ones_cons (Own.one hOp_t66) ones_nil)))) ?_
         clear hH; rintro _ w hH
         refine p0 hA 15 65535 rfl (fun w => (q_assign rfl)) fun a hA => ?_
         refine a_end (by kernel_rfl) ?_ _
         refine hK10 _ _ ?_
         clear hK10
         replace hA := hA.s11 17 16 15 14 13 12 9 7 2 4 5
         refine wp_seq_k fun K11 hK11 => ?_
         refine any_go mixed (fun _ => true) hH ?_
         clear hH; intro w hH
         have hS := hH
         refine any_l 28 ?_
         refine p0 hA 0 1 rfl (fun w => (q_move rfl)) fun a hA => ?_
         refine p0 hA 1 3 rfl (fun w => (q_eqlI (n := 0) rfl rfl)) fun a hA => ?_
         replace hA := hA.decT (by first | rfl | omega | assumption | (simp; done) | (simp [*]; done))
         refine p0 hA 2 7 rfl (fun w => (q_move rfl)) fun a hA => ?_
         refine pg hA 3 15 rfl rfl rfl (fun w => (q_move rfl)) fun a hA => ?_
         refine pg hA 4 31 rfl rfl rfl (fun w => (q_eqlI (n := 0) rfl rfl)) fun a hA => ?_
         refine p0 hA 5 63 rfl (fun w => (q_pick_t rfl rfl)) fun a hA => ?_
         replace hA := hA.decT (by first | rfl | omega | assumption | (simp; done) | (simp [*]; done))
         refine p0 hA 6 127 rfl (fun w => (q_move rfl)) fun a hA => ?_
         refine pg hA 7 255 rfl rfl rfl (fun w => (q_move rfl)) fun a hA => ?_
         refine pg hA 8 511 rfl rfl rfl (fun w => (q_eqlI (n := 0) rfl rfl)) fun a hA => ?_
         refine p0 hA 9 1023 rfl (fun w => (q_pick_t rfl rfl)) fun a hA => ?_
         replace hA := hA.decT (by first | rfl | omega | assumption | (simp; done) | (simp [*]; done))
         refine p0 hA 10 2047 rfl (fun w => (q_move rfl)) fun a hA => ?_
         refine pg hA 11 4095 rfl rfl rfl (fun w => (q_move rfl)) fun a hA => ?_
         refine rg hA 13 12287 rfl rfl rfl hS (fun w hH => (q_loadW hH 0 rfl Tryd.underlying27 rfl ti27 rfl (by first | omega | (simp; done) | (simp; omega) | (rw [List.length_map]; assumption) | assumption | rfl | (simp [*]; done) | (simp [*]; omega)))) fun a hA => ?_
         refine rg hA 15 45055 rfl rfl rfl hS (fun w hH => (q_loadW hH 9 rfl Tryd.underlying39 rfl ti39 rfl (by first | omega | (simp; done) | (simp; omega) | (rw [List.length_map]; assumption) | assumption | rfl | (simp [*]; done) | (simp [*]; omega)))) fun a hA => ?_
         refine rg hA 16 110591 rfl rfl rfl hS (fun w hH => (q_loadW hH 8 rfl Tryd.underlying24 rfl ti24 rfl (by first | omega | (simp; done) | (simp; omega) | (rw [List.length_map]; assumption) | assumption | rfl | (simp [*]; done) | (simp [*]; omega)))) fun a hA => ?_
         refine pg hA 17 241663 rfl rfl rfl (fun w => (q_move rfl)) fun a hA => ?_
         refine pg hA 19 765951 rfl rfl rfl (fun w => (q_move rfl)) fun a hA => ?_
         refine pg hA 20 1814527 rfl rfl rfl (fun w => (q_move rfl)) fun a hA => ?_
         refine g1 hA 12 1818623 rfl rfl rfl (lo_call fn18 rfl (own20_any _ _ (hH.rd hr) (by first | omega | (simp; done) | (simp; omega)))) ?_
         rintro _ w ⟨v_t81, N_t81, rfl, hO_t81, hC⟩
         replace hH := HS.call0 hH hC
         clear hC
         replace hS := hH.pick [1, 2, 3, 4, 5, 6, 7, 8, 9, 10, 11] (Hs' := [_, _, _, _, _, _, _, _, _, _, _]) rfl
         refine ⟨fun _ _ => hS, ?_⟩
         intro a hA
         refine pg hA 14 1835007 rfl rfl rfl (fun w => (q_buildC (css := [[v_t81], _]) (z := [(.slice none 0 0), (.slice none 0 0), (I 0), (.slice none 0 0), (.slice none 0 0)]) (BT.mk (pl := [(0, 1), (1, 1), (2, 3)]) (it := Tryd.t29) (by kernel_rfl) Tryd.underlying29 (by kernel_rfl) (by kernel_rfl)) rfl ⟨cells_one (Own.one hO_t81), ⟨_, rfl, by first | rfl | (simp [Value.cells]; done) | (simp [Value.cells, *]; done), by decide⟩, rfl, ⟨_, rfl, by first | rfl | (simp [Value.cells]; done) | (simp [Value.cells, *]; done), by decide⟩, trivial⟩)) fun a hA => ?_
         replace hH := hH.pick [2, 0, 1, 3, 4, 5, 6, 7, 8, 9, 10, 11] (Hs' := [_, _, _, _, _, _, _, _, _, _, _, _]) rfl
         refine g1 hA 18 2097151 rfl rfl rfl (lo_call fn30 rfl (public7_any _ _ _ _ hPl _ _ _ hshp (by first | exact Nat.zero_le _ | omega | decide) (by first | assumption | omega | decide) (HS.handed (Ns1 := [_]) hH))) ?_
         rintro _ w ⟨rfl, hC⟩
         replace hH := HS.call (Ns1 := [_]) hH hC
         clear hC
         replace hS := hH.pick [2, 0, 3, 4, 5, 6, 7, 8, 9, 10, 11] (Hs' := [_, _, _, _, _, _, _, _, _, _, _]) rfl
         refine ⟨fun _ _ => hS, ?_⟩
         intro a hA
         refine g1 hA 21 4194303 rfl rfl rfl (lo_call fn24 rfl (check20_any (hg.mono0 hH) _ _ _ _ By.nilV (Own.rd0 hO_t81 hH 1 rfl) (by first | omega | (simp; done) | (simp; omega)) (by first | omega | (simp; done) | (simp; omega)) _ _ _ _ _ (by first | assumption | exact Dg.nil) (by first | assumption | exact Dg.nil) (Own.rd0 hOo_t66 hH 3 rfl) (Own.rd0 hOp_t66 hH 4 rfl) (by first | omega | (simp; done) | (simp; omega)) (by first | omega | (simp; done) | (simp; omega)) (by omega) (by omega) (by omega) _ (by first | assumption | rfl) (by first | assumption | exact ts9_of (by decide)) _ (by first | assumption | (rw [List.length_map]; assumption) | rfl | exact sha_length _ | (simp; done) | (simp [*]; done) | omega) _ (by first | assumption | (rw [List.length_map]; assumption) | rfl | exact sha_length _ | (simp; done) | (simp [*]; done) | omega) _ _ (by first | omega | decide))) ?_
         rintro _ w ⟨rfl, hC⟩
         replace hH := HS.call0 hH hC
         clear hC
         replace hS := hH.pick [2, 0, 3, 4, 5, 6, 7, 8, 9, 10, 11] (Hs' := [_, _, _, _, _, _, _, _, _, _, _]) rfl
         refine ⟨fun _ _ => hS, ?_⟩
         intro a hA
         refine pg hA 22 8388607 rfl rfl rfl (fun w => (q_eqlI (n := 0) rfl rfl)) fun a hA => ?_
         refine p0 hA 23 16777215 rfl (fun w => (q_pick_t rfl rfl)) fun a hA => ?_
         replace hA := hA.decT (by exact congrArg (fun x : Nat => (x : Int)) (chkR_o (by omega) ⟨hx.symm, sig_right _ _ hR (by omega)⟩))
         refine p0 hA 24 33554431 rfl (fun w => (q_move rfl)) fun a hA => ?_
         refine g1 hA 25 67108863 rfl rfl rfl (lo_call fn15 rfl (awake20_any (hg.mono0 hH))) ?_
         rintro _ w ⟨rfl, hC⟩
         replace hH := HS.call0 hH hC
         clear hC
         replace hS := hH.pick [2, 0, 3, 4, 5, 6, 7, 8, 9, 10, 11] (Hs' := [_, _, _, _, _, _, _, _, _, _, _]) rfl
         refine ⟨fun _ _ => hS, ?_⟩
         intro a hA
         refine p0 hA 26 134217727 rfl (fun w => (q_pick_t rfl rfl)) fun a hA => ?_
         refine p0 hA 27 268435455 rfl (fun w => (q_assign rfl)) fun a hA => ?_
         refine a_end (by kernel_rfl) ?_ _
         refine hK11 _ _ ?_
         clear hK11
         replace hA := hA.s1 12
         refine wp_ret ?_
         refine post_ret hA (res_1 rfl hA rfl) ?_
         replace hH := hH.pick [] (Hs' := []) rfl
         exact ⟨_, rfl, rfl, hH⟩
        ·skip
         refine o1 hA 13 8703 rfl (lo_allocA hH ti27) ?_
         clear hH; rintro _ w ⟨b_t16, rfl, hH⟩
         replace hS := hH.pick [4, 5, 6, 7, 8] (Hs' := [_, _, _, _, _]) rfl
         refine ⟨fun _ _ => hS, ?_⟩
         intro a hA
         replace hH := hH.pick [3, 0, 1, 2, 4, 5, 6, 7, 8] (Hs' := [_, _, _, _, _, _, _, _, _]) rfl
         refine a1 hA 9 9215 rfl (lo_call fn29 rfl (sign7_any (hg.mono0 hH) b_k b_s (hg.ng NG.nil hH) s hsd n h hR v_l (HS.boxDM (Ns1 := [_]) hH 3 rfl hsd) (Own.rdM hO_l (Ns1 := [_]) hH 4 rfl) x (by omega) _ (txV (max (ts.getD 0 0) 0).toNat (max (ts.getD 1 0) 0).toNat l nn) (Own.rdM hO_t65 (Ns1 := [_]) hH 1 rfl) (by first | omega | (simp; done) | (simp; omega)) (HS.handed (Ns1 := [_]) hH))) ?_
         rintro _ w ⟨v_ot66, v_pt66, N_ot66, N_pt66, rfl, hOo_t66, hOp_t66, hC⟩
         replace hH := HS.call (Ns1 := [_]) hH hC
         clear hC
         have hdo_t66 := otsK_dg s n x (txV (max (ts.getD 0 0) 0).toNat (max (ts.getD 1 0) 0).toNat l nn)
         have hdp_t66 := pthK_dg s n (show x < 2 ^ h by first | assumption | omega | simp)
         have hlo_t66 := otsK_length s n x (txV (max (ts.getD 0 0) 0).toNat (max (ts.getD 1 0) 0).toNat l nn)
         have hlp_t66 := pthK_length s n h x
         replace hS := hH.pick [6, 7, 8, 9, 10] (Hs' := [_, _, _, _, _]) rfl
         refine ⟨fun _ _ => hS, ?_⟩
         intro a hA
         refine p0 hA 10 10239 rfl (fun w => (q_move rfl)) fun a hA => ?_
         refine p0 hA 11 12287 rfl (fun w => (q_extract rfl rfl)) fun a hA => ?_
         refine p0 hA 12 16383 rfl (fun w => (q_extract rfl rfl)) fun a hA => ?_
         replace hH := hH.pick [3, 0, 1, 2, 4, 5, 6, 7, 8, 9, 10] (Hs' := [_, _, _, _, _, _, _, _, _, _, _]) rfl
         refine a0n hA 14 32767 rfl (lo_storeAm hH ti27 rfl rfl (rfl) (rfl) (ones_cons rfl (ones_cons (Own.one hOo_t66) (ones_cons (Own.one hOp_t66) ones_nil)))) ?_
         clear hH; rintro _ w hH
         refine p0 hA 15 65535 rfl (fun w => (q_assign rfl)) fun a hA => ?_
         refine a_end (by kernel_rfl) ?_ _
         refine hK10 _ _ ?_
         clear hK10
         replace hA := hA.s11 17 16 15 14 13 12 9 7 2 4 5
         refine wp_seq_k fun K12 hK12 => ?_
         refine any_go mixed (fun _ => true) hH ?_
         clear hH; intro w hH
         have hS := hH
         refine any_l 28 ?_
         refine p0 hA 0 1 rfl (fun w => (q_move rfl)) fun a hA => ?_
         refine p0 hA 1 3 rfl (fun w => (q_eqlI (n := 0) rfl rfl)) fun a hA => ?_
         replace hA := hA.decT (by first | rfl | omega | assumption | (simp; done) | (simp [*]; done))
         refine p0 hA 2 7 rfl (fun w => (q_move rfl)) fun a hA => ?_
         refine pg hA 3 15 rfl rfl rfl (fun w => (q_move rfl)) fun a hA => ?_
         refine pg hA 4 31 rfl rfl rfl (fun w => (q_eqlI (n := 0) rfl rfl)) fun a hA => ?_
         refine p0 hA 5 63 rfl (fun w => (q_pick_t rfl rfl)) fun a hA => ?_
         replace hA := hA.decT (by first | rfl | omega | assumption | (simp; done) | (simp [*]; done))
         refine p0 hA 6 127 rfl (fun w => (q_move rfl)) fun a hA => ?_
         refine pg hA 7 255 rfl rfl rfl (fun w => (q_move rfl)) fun a hA => ?_
         refine pg hA 8 511 rfl rfl rfl (fun w => (q_eqlI (n := 0) rfl rfl)) fun a hA => ?_
         refine p0 hA 9 1023 rfl (fun w => (q_pick_t rfl rfl)) fun a hA => ?_
         replace hA := hA.decT (by first | rfl | omega | assumption | (simp; done) | (simp [*]; done))
         refine p0 hA 10 2047 rfl (fun w => (q_move rfl)) fun a hA => ?_
         refine pg hA 11 4095 rfl rfl rfl (fun w => (q_move rfl)) fun a hA => ?_
         refine rg hA 13 12287 rfl rfl rfl hS (fun w hH => (q_loadW hH 0 rfl Tryd.underlying27 rfl ti27 rfl (by first | omega | (simp; done) | (simp; omega) | (rw [List.length_map]; assumption) | assumption | rfl | (simp [*]; done) | (simp [*]; omega)))) fun a hA => ?_
         refine rg hA 15 45055 rfl rfl rfl hS (fun w hH => (q_loadW hH 9 rfl Tryd.underlying39 rfl ti39 rfl (by first | omega | (simp; done) | (simp; omega) | (rw [List.length_map]; assumption) | assumption | rfl | (simp [*]; done) | (simp [*]; omega)))) fun a hA => ?_
         refine rg hA 16 110591 rfl rfl rfl hS (fun w hH => (q_loadW hH 8 rfl Tryd.underlying24 rfl ti24 rfl (by first | omega | (simp; done) | (simp; omega) | (rw [List.length_map]; assumption) | assumption | rfl | (simp [*]; done) | (simp [*]; omega)))) fun a hA => ?_
         refine pg hA 17 241663 rfl rfl rfl (fun w => (q_move rfl)) fun a hA => ?_
         refine pg hA 19 765951 rfl rfl rfl (fun w => (q_move rfl)) fun a hA => ?_
         refine pg hA 20 1814527 rfl rfl rfl (fun w => (q_move rfl)) fun a hA => ?_
         refine g1 hA 12 1818623 rfl rfl rfl (lo_call fn18 rfl (own20_any _ _ (hH.rd hr) (by first | omega | (simp; done) | (simp; omega)))) ?_
         rintro _ w ⟨v_t81, N_t81, rfl, hO_t81, hC⟩
         replace hH := HS.call0 hH hC
         clear hC
         replace hS := hH.pick [1, 2, 3, 4, 5, 6, 7, 8, 9, 10, 11] (Hs' := [_, _, _, _, _, _, _, _, _, _, _]) rfl
         refine ⟨fun _ _ => hS, ?_⟩
         intro a hA
         refine pg hA 14 1835007 rfl rfl rfl (fun w => (q_buildC (css := [[v_t81], _]) (z := [(.slice none 0 0), (.slice none 0 0), (I 0), (.slice none 0 0), (.slice none 0 0)]) (BT.mk (pl := [(0, 1), (1, 1), (2, 3)]) (it := Tryd.t29) (by kernel_rfl) Tryd.underlying29 (by kernel_rfl) (by kernel_rfl)) rfl ⟨cells_one (Own.one hO_t81), ⟨_, rfl, by first | rfl | (simp [Value.cells]; done) | (simp [Value.cells, *]; done), by decide⟩, rfl, ⟨_, rfl, by first | rfl | (simp [Value.cells]; done) | (simp [Value.cells, *]; done), by decide⟩, trivial⟩)) fun a hA => ?_
         replace hH := hH.pick [2, 0, 1, 3, 4, 5, 6, 7, 8, 9, 10, 11] (Hs' := [_, _, _, _, _, _, _, _, _, _, _, _]) rfl
         refine g1 hA 18 2097151 rfl rfl rfl (lo_call fn30 rfl (public7_any _ _ _ _ hPl _ _ _ hshp (by first | exact Nat.zero_le _ | omega | decide) (by first | assumption | omega | decide) (HS.handed (Ns1 := [_]) hH))) ?_
         rintro _ w ⟨rfl, hC⟩
         replace hH := HS.call (Ns1 := [_]) hH hC
         clear hC
         replace hS := hH.pick [2, 0, 3, 4, 5, 6, 7, 8, 9, 10, 11] (Hs' := [_, _, _, _, _, _, _, _, _, _, _]) rfl
         refine ⟨fun _ _ => hS, ?_⟩
         intro a hA
         refine g1 hA 21 4194303 rfl rfl rfl (lo_call fn24 rfl (check20_any (hg.mono0 hH) _ _ _ _ By.nilV (Own.rd0 hO_t81 hH 1 rfl) (by first | omega | (simp; done) | (simp; omega)) (by first | omega | (simp; done) | (simp; omega)) _ _ _ _ _ (by first | assumption | exact Dg.nil) (by first | assumption | exact Dg.nil) (Own.rd0 hOo_t66 hH 3 rfl) (Own.rd0 hOp_t66 hH 4 rfl) (by first | omega | (simp; done) | (simp; omega)) (by first | omega | (simp; done) | (simp; omega)) (by omega) (by omega) (by omega) _ (by first | assumption | rfl) (by first | assumption | exact ts9_of (by decide)) _ (by first | assumption | (rw [List.length_map]; assumption) | rfl | exact sha_length _ | (simp; done) | (simp [*]; done) | omega) _ (by first | assumption | (rw [List.length_map]; assumption) | rfl | exact sha_length _ | (simp; done) | (simp [*]; done) | omega) _ _ (by first | omega | decide))) ?_
         rintro _ w ⟨rfl, hC⟩
         replace hH := HS.call0 hH hC
         clear hC
         replace hS := hH.pick [2, 0, 3, 4, 5, 6, 7, 8, 9, 10, 11] (Hs' := [_, _, _, _, _, _, _, _, _, _, _]) rfl
         refine ⟨fun _ _ => hS, ?_⟩
         intro a hA
         refine pg hA 22 8388607 rfl rfl rfl (fun w => (q_eqlI (n := 0) rfl rfl)) fun a hA => ?_
         refine p0 hA 23 16777215 rfl (fun w => (q_pick_t rfl rfl)) fun a hA => ?_
         replace hA := hA.decT (by exact congrArg (fun x : Nat => (x : Int)) (chkR_o (by omega) ⟨hx.symm, sig_right _ _ hR (by omega)⟩))
         refine p0 hA 24 33554431 rfl (fun w => (q_move rfl)) fun a hA => ?_
         refine g1 hA 25 67108863 rfl rfl rfl (lo_call fn15 rfl (awake20_any (hg.mono0 hH))) ?_
         rintro _ w ⟨rfl, hC⟩
         replace hH := HS.call0 hH hC
         clear hC
         replace hS := hH.pick [2, 0, 3, 4, 5, 6, 7, 8, 9, 10, 11] (Hs' := [_, _, _, _, _, _, _, _, _, _, _]) rfl
         refine ⟨fun _ _ => hS, ?_⟩
         intro a hA
         refine p0 hA 26 134217727 rfl (fun w => (q_pick_t rfl rfl)) fun a hA => ?_
         refine p0 hA 27 268435455 rfl (fun w => (q_assign rfl)) fun a hA => ?_
         refine a_end (by kernel_rfl) ?_ _
         refine hK12 _ _ ?_
         clear hK12
         replace hA := hA.s1 12
         refine wp_ret ?_
         refine post_ret hA (res_1 rfl hA rfl) ?_
         replace hH := hH.pick [] (Hs' := []) rfl
         exact ⟨_, rfl, rfl, hH⟩
       ·skip
        refine o1 hA 13 8447 rfl (lo_allocA hH ti27) ?_
        clear hH; rintro _ w ⟨b_t16, rfl, hH⟩
        replace hS := hH.pick [3, 4, 5, 6, 7] (Hs' := [_, _, _, _, _]) rfl
        refine ⟨fun _ _ => hS, ?_⟩
        intro a hA
        refine a1n hA 8 8703 rfl (lo_call fn17 rfl (text20_any _ _ (by first | exact hts9 _ | assumption | omega | decide) (by first | exact hts9 _ | assumption | omega | decide) _ _ (Own.rd0 hO_t63 hH 1 rfl) (by first | omega | (simp; done) | (simp; omega)) _ (by first | assumption | (rw [List.length_map]; assumption) | rfl | exact sha_length _ | (simp; done) | (simp [*]; done) | omega))) ?_
        rintro _ w ⟨v_t65, N_t65, rfl, hO_t65, hC⟩
        replace hH := HS.call0 hH hC
        clear hC
        intro a hA
        replace hH := hH.pick [3, 0, 1, 2, 4, 5, 6, 7, 8] (Hs' := [_, _, _, _, _, _, _, _, _]) rfl
        refine a1 hA 9 9215 rfl (lo_call fn29 rfl (sign7_any (hg.mono0 hH) b_k b_s (hg.ng NG.nil hH) s hsd n h hR v_l (HS.boxDM (Ns1 := [_]) hH 3 rfl hsd) (Own.rdM hO_l (Ns1 := [_]) hH 4 rfl) x (by omega) _ (txV (max (ts.getD 0 0) 0).toNat (max (ts.getD 1 0) 0).toNat l nn) (Own.rdM hO_t65 (Ns1 := [_]) hH 0 rfl) (by first | omega | (simp; done) | (simp; omega)) (HS.handed (Ns1 := [_]) hH))) ?_
        rintro _ w ⟨v_ot66, v_pt66, N_ot66, N_pt66, rfl, hOo_t66, hOp_t66, hC⟩
        replace hH := HS.call (Ns1 := [_]) hH hC
        clear hC
        have hdo_t66 := otsK_dg s n x (txV (max (ts.getD 0 0) 0).toNat (max (ts.getD 1 0) 0).toNat l nn)
        have hdp_t66 := pthK_dg s n (show x < 2 ^ h by first | assumption | omega | simp)
        have hlo_t66 := otsK_length s n x (txV (max (ts.getD 0 0) 0).toNat (max (ts.getD 1 0) 0).toNat l nn)
        have hlp_t66 := pthK_length s n h x
        replace hS := hH.pick [6, 7, 8, 9, 10] (Hs' := [_, _, _, _, _]) rfl
        refine ⟨fun _ _ => hS, ?_⟩
        intro a hA
        refine p0 hA 10 10239 rfl (fun w => (q_move rfl)) fun a hA => ?_
        refine p0 hA 11 12287 rfl (fun w => (q_extract rfl rfl)) fun a hA => ?_
        refine p0 hA 12 16383 rfl (fun w => (q_extract rfl rfl)) fun a hA => ?_
        replace hH := hH.pick [4, 0, 1, 2, 3, 5, 6, 7, 8, 9, 10] (Hs' := [_, _, _, _, _, _, _, _, _, _, _]) rfl
        refine a0n hA 14 32767 rfl (lo_storeAm hH ti27 rfl rfl (rfl) (rfl) (ones_cons rfl (ones_cons (Own.one hOo_t66) (ones_cons (Own.one hOp_t66) ones_nil)))) ?_
        clear hH; rintro _ w hH
        refine p0 hA 15 65535 rfl (fun w => (q_assign rfl)) fun a hA => ?_
        refine a_end (by kernel_rfl) ?_ _
        refine hK10 _ _ ?_
        clear hK10
        replace hA := hA.s11 17 16 15 14 13 12 9 7 2 4 5
        refine wp_seq_k fun K13 hK13 => ?_
        refine any_go mixed (fun _ => true) hH ?_
        clear hH; intro w hH
        have hS := hH
        refine any_l 28 ?_
        refine p0 hA 0 1 rfl (fun w => (q_move rfl)) fun a hA => ?_
        refine p0 hA 1 3 rfl (fun w => (q_eqlI (n := 0) rfl rfl)) fun a hA => ?_
        replace hA := hA.decT (by first | rfl | omega | assumption | (simp; done) | (simp [*]; done))
        refine p0 hA 2 7 rfl (fun w => (q_move rfl)) fun a hA => ?_
        refine pg hA 3 15 rfl rfl rfl (fun w => (q_move rfl)) fun a hA => ?_
        refine pg hA 4 31 rfl rfl rfl (fun w => (q_eqlI (n := 0) rfl rfl)) fun a hA => ?_
        refine p0 hA 5 63 rfl (fun w => (q_pick_t rfl rfl)) fun a hA => ?_
        replace hA := hA.decT (by first | rfl | omega | assumption | (simp; done) | (simp [*]; done))
        refine p0 hA 6 127 rfl (fun w => (q_move rfl)) fun a hA => ?_
        refine pg hA 7 255 rfl rfl rfl (fun w => (q_move rfl)) fun a hA => ?_
        refine pg hA 8 511 rfl rfl rfl (fun w => (q_eqlI (n := 0) rfl rfl)) fun a hA => ?_
        refine p0 hA 9 1023 rfl (fun w => (q_pick_t rfl rfl)) fun a hA => ?_
        replace hA := hA.decT (by first | rfl | omega | assumption | (simp; done) | (simp [*]; done))
        refine p0 hA 10 2047 rfl (fun w => (q_move rfl)) fun a hA => ?_
        refine pg hA 11 4095 rfl rfl rfl (fun w => (q_move rfl)) fun a hA => ?_
        refine rg hA 13 12287 rfl rfl rfl hS (fun w hH => (q_loadW hH 0 rfl Tryd.underlying27 rfl ti27 rfl (by first | omega | (simp; done) | (simp; omega) | (rw [List.length_map]; assumption) | assumption | rfl | (simp [*]; done) | (simp [*]; omega)))) fun a hA => ?_
        refine rg hA 15 45055 rfl rfl rfl hS (fun w hH => (q_loadW hH 9 rfl Tryd.underlying39 rfl ti39 rfl (by first | omega | (simp; done) | (simp; omega) | (rw [List.length_map]; assumption) | assumption | rfl | (simp [*]; done) | (simp [*]; omega)))) fun a hA => ?_
        refine rg hA 16 110591 rfl rfl rfl hS (fun w hH => (q_loadW hH 8 rfl Tryd.underlying24 rfl ti24 rfl (by first | omega | (simp; done) | (simp; omega) | (rw [List.length_map]; assumption) | assumption | rfl | (simp [*]; done) | (simp [*]; omega)))) fun a hA => ?_
        refine pg hA 17 241663 rfl rfl rfl (fun w => (q_move rfl)) fun a hA => ?_
        refine pg hA 19 765951 rfl rfl rfl (fun w => (q_move rfl)) fun a hA => ?_
        refine pg hA 20 1814527 rfl rfl rfl (fun w => (q_move rfl)) fun a hA => ?_
        refine g1 hA 12 1818623 rfl rfl rfl (lo_call fn18 rfl (own20_any _ _ (hH.rd hr) (by first | omega | (simp; done) | (simp; omega)))) ?_
        rintro _ w ⟨v_t81, N_t81, rfl, hO_t81, hC⟩
        replace hH := HS.call0 hH hC
        clear hC
        replace hS := hH.pick [1, 2, 3, 4, 5, 6, 7, 8, 9, 10, 11] (Hs' := [_, _, _, _, _, _, _, _, _, _, _]) rfl
        refine ⟨fun _ _ => hS, ?_⟩
        intro a hA
        refine pg hA 14 1835007 rfl rfl rfl (fun w => (q_buildC (css := [[v_t81], _]) (z := [(.slice none 0 0), (.slice none 0 0), (I 0), (.slice none 0 0), (.slice none 0 0)]) (BT.mk (pl := [(0, 1), (1, 1), (2, 3)]) (it := Tryd.t29) (by kernel_rfl) Tryd.underlying29 (by kernel_rfl) (by kernel_rfl)) rfl ⟨cells_one (Own.one hO_t81), ⟨_, rfl, by first | rfl | (simp [Value.cells]; done) | (simp [Value.cells, *]; done), by decide⟩, rfl, ⟨_, rfl, by first | rfl | (simp [Value.cells]; done) | (simp [Value.cells, *]; done), by decide⟩, trivial⟩)) fun a hA => ?_
        replace hH := hH.pick [2, 0, 1, 3, 4, 5, 6, 7, 8, 9, 10, 11] (Hs' := [_, _, _, _, _, _, _, _, _, _, _, _]) rfl
        refine g1 hA 18 2097151 rfl rfl rfl (lo_call fn30 rfl (public7_any _ _ _ _ hPl _ _ _ hshp (by first | exact Nat.zero_le _ | omega | decide) (by first | assumption | omega | decide) (HS.handed (Ns1 := [_]) hH))) ?_
        rintro _ w ⟨rfl, hC⟩
        replace hH := HS.call (Ns1 := [_]) hH hC
        clear hC
        replace hS := hH.pick [2, 0, 3, 4, 5, 6, 7, 8, 9, 10, 11] (Hs' := [_, _, _, _, _, _, _, _, _, _, _]) rfl
        refine ⟨fun _ _ => hS, ?_⟩
        intro a hA
        refine g1 hA 21 4194303 rfl rfl rfl (lo_call fn24 rfl (check20_any (hg.mono0 hH) _ _ _ _ By.nilV (Own.rd0 hO_t81 hH 1 rfl) (by first | omega | (simp; done) | (simp; omega)) (by first | omega | (simp; done) | (simp; omega)) _ _ _ _ _ (by first | assumption | exact Dg.nil) (by first | assumption | exact Dg.nil) (Own.rd0 hOo_t66 hH 3 rfl) (Own.rd0 hOp_t66 hH 4 rfl) (by first | omega | (simp; done) | (simp; omega)) (by first | omega | (simp; done) | (simp; omega)) (by omega) (by omega) (by omega) _ (by first | assumption | rfl) (by first | assumption | exact ts9_of (by decide)) _ (by first | assumption | (rw [List.length_map]; assumption) | rfl | exact sha_length _ | (simp; done) | (simp [*]; done) | omega) _ (by first | assumption | (rw [List.length_map]; assumption) | rfl | exact sha_length _ | (simp; done) | (simp [*]; done) | omega) _ _ (by first | omega | decide))) ?_
        rintro _ w ⟨rfl, hC⟩
        replace hH := HS.call0 hH hC
        clear hC
        replace hS := hH.pick [2, 0, 3, 4, 5, 6, 7, 8, 9, 10, 11] (Hs' := [_, _, _, _, _, _, _, _, _, _, _]) rfl
        refine ⟨fun _ _ => hS, ?_⟩
        intro a hA
        refine pg hA 22 8388607 rfl rfl rfl (fun w => (q_eqlI (n := 0) rfl rfl)) fun a hA => ?_
        refine p0 hA 23 16777215 rfl (fun w => (q_pick_t rfl rfl)) fun a hA => ?_
        replace hA := hA.decT (by exact congrArg (fun x : Nat => (x : Int)) (chkR_o (by omega) ⟨hx.symm, sig_right _ _ hR (by omega)⟩))
        refine p0 hA 24 33554431 rfl (fun w => (q_move rfl)) fun a hA => ?_
        refine g1 hA 25 67108863 rfl rfl rfl (lo_call fn15 rfl (awake20_any (hg.mono0 hH))) ?_
        rintro _ w ⟨rfl, hC⟩
        replace hH := HS.call0 hH hC
        clear hC
        replace hS := hH.pick [2, 0, 3, 4, 5, 6, 7, 8, 9, 10, 11] (Hs' := [_, _, _, _, _, _, _, _, _, _, _]) rfl
        refine ⟨fun _ _ => hS, ?_⟩
        intro a hA
        refine p0 hA 26 134217727 rfl (fun w => (q_pick_t rfl rfl)) fun a hA => ?_
        refine p0 hA 27 268435455 rfl (fun w => (q_assign rfl)) fun a hA => ?_
        refine a_end (by kernel_rfl) ?_ _
        refine hK13 _ _ ?_
        clear hK13
        replace hA := hA.s1 12
        refine wp_ret ?_
        refine post_ret hA (res_1 rfl hA rfl) ?_
        replace hH := hH.pick [] (Hs' := []) rfl
        exact ⟨_, rfl, rfl, hH⟩
      ·skip
       refine o1 hA 13 8383 rfl (lo_allocA hH ti27) ?_
       clear hH; rintro _ w ⟨b_t16, rfl, hH⟩
       replace hS := hH.pick [2, 3, 4, 5, 6] (Hs' := [_, _, _, _, _]) rfl
       refine ⟨fun _ _ => hS, ?_⟩
       intro a hA
       refine a1 hA 6 8447 rfl (lo_call fn18 rfl (own20_any _ _ (hH.rd hr) (by first | omega | (simp; done) | (simp; omega)))) ?_
       rintro _ w ⟨v_t63, N_t63, rfl, hO_t63, hC⟩
       replace hH := HS.call0 hH hC
       clear hC
       replace hS := hH.pick [3, 4, 5, 6, 7] (Hs' := [_, _, _, _, _]) rfl
       refine ⟨fun _ _ => hS, ?_⟩
       intro a hA
       refine a1n hA 8 8703 rfl (lo_call fn17 rfl (text20_any _ _ (by first | exact hts9 _ | assumption | omega | decide) (by first | exact hts9 _ | assumption | omega | decide) _ _ (Own.rd0 hO_t63 hH 0 rfl) (by first | omega | (simp; done) | (simp; omega)) _ (by first | assumption | (rw [List.length_map]; assumption) | rfl | exact sha_length _ | (simp; done) | (simp [*]; done) | omega))) ?_
       rintro _ w ⟨v_t65, N_t65, rfl, hO_t65, hC⟩
       replace hH := HS.call0 hH hC
       clear hC
       intro a hA
       replace hH := hH.pick [3, 0, 1, 2, 4, 5, 6, 7, 8] (Hs' := [_, _, _, _, _, _, _, _, _]) rfl
       refine a1 hA 9 9215 rfl (lo_call fn29 rfl (sign7_any (hg.mono0 hH) b_k b_s (hg.ng NG.nil hH) s hsd n h hR v_l (HS.boxDM (Ns1 := [_]) hH 3 rfl hsd) (Own.rdM hO_l (Ns1 := [_]) hH 4 rfl) x (by omega) _ (txV (max (ts.getD 0 0) 0).toNat (max (ts.getD 1 0) 0).toNat l nn) (Own.rdM hO_t65 (Ns1 := [_]) hH 0 rfl) (by first | omega | (simp; done) | (simp; omega)) (HS.handed (Ns1 := [_]) hH))) ?_
       rintro _ w ⟨v_ot66, v_pt66, N_ot66, N_pt66, rfl, hOo_t66, hOp_t66, hC⟩
       replace hH := HS.call (Ns1 := [_]) hH hC
       clear hC
       have hdo_t66 := otsK_dg s n x (txV (max (ts.getD 0 0) 0).toNat (max (ts.getD 1 0) 0).toNat l nn)
       have hdp_t66 := pthK_dg s n (show x < 2 ^ h by first | assumption | omega | simp)
       have hlo_t66 := otsK_length s n x (txV (max (ts.getD 0 0) 0).toNat (max (ts.getD 1 0) 0).toNat l nn)
       have hlp_t66 := pthK_length s n h x
       replace hS := hH.pick [6, 7, 8, 9, 10] (Hs' := [_, _, _, _, _]) rfl
       refine ⟨fun _ _ => hS, ?_⟩
       intro a hA
       refine p0 hA 10 10239 rfl (fun w => (q_move rfl)) fun a hA => ?_
       refine p0 hA 11 12287 rfl (fun w => (q_extract rfl rfl)) fun a hA => ?_
       refine p0 hA 12 16383 rfl (fun w => (q_extract rfl rfl)) fun a hA => ?_
       replace hH := hH.pick [5, 0, 1, 2, 3, 4, 6, 7, 8, 9, 10] (Hs' := [_, _, _, _, _, _, _, _, _, _, _]) rfl
       refine a0n hA 14 32767 rfl (lo_storeAm hH ti27 rfl rfl (rfl) (rfl) (ones_cons rfl (ones_cons (Own.one hOo_t66) (ones_cons (Own.one hOp_t66) ones_nil)))) ?_
       clear hH; rintro _ w hH
       refine p0 hA 15 65535 rfl (fun w => (q_assign rfl)) fun a hA => ?_
       refine a_end (by kernel_rfl) ?_ _
       refine hK10 _ _ ?_
       clear hK10
       replace hA := hA.s11 17 16 15 14 13 12 9 7 2 4 5
       refine wp_seq_k fun K14 hK14 => ?_
       refine any_go mixed (fun _ => true) hH ?_
       clear hH; intro w hH
       have hS := hH
       refine any_l 28 ?_
       refine p0 hA 0 1 rfl (fun w => (q_move rfl)) fun a hA => ?_
       refine p0 hA 1 3 rfl (fun w => (q_eqlI (n := 0) rfl rfl)) fun a hA => ?_
       replace hA := hA.decT (by first | rfl | omega | assumption | (simp; done) | (simp [*]; done))
       refine p0 hA 2 7 rfl (fun w => (q_move rfl)) fun a hA => ?_
       refine pg hA 3 15 rfl rfl rfl (fun w => (q_move rfl)) fun a hA => ?_
       refine pg hA 4 31 rfl rfl rfl (fun w => (q_eqlI (n := 0) rfl rfl)) fun a hA => ?_
       refine p0 hA 5 63 rfl (fun w => (q_pick_t rfl rfl)) fun a hA => ?_
       replace hA := hA.decT (by first | rfl | omega | assumption | (simp; done) | (simp [*]; done))
       refine p0 hA 6 127 rfl (fun w => (q_move rfl)) fun a hA => ?_
       refine pg hA 7 255 rfl rfl rfl (fun w => (q_move rfl)) fun a hA => ?_
       refine pg hA 8 511 rfl rfl rfl (fun w => (q_eqlI (n := 0) rfl rfl)) fun a hA => ?_
       refine p0 hA 9 1023 rfl (fun w => (q_pick_t rfl rfl)) fun a hA => ?_
       replace hA := hA.decT (by first | rfl | omega | assumption | (simp; done) | (simp [*]; done))
       refine p0 hA 10 2047 rfl (fun w => (q_move rfl)) fun a hA => ?_
       refine pg hA 11 4095 rfl rfl rfl (fun w => (q_move rfl)) fun a hA => ?_
       refine rg hA 13 12287 rfl rfl rfl hS (fun w hH => (q_loadW hH 0 rfl Tryd.underlying27 rfl ti27 rfl (by first | omega | (simp; done) | (simp; omega) | (rw [List.length_map]; assumption) | assumption | rfl | (simp [*]; done) | (simp [*]; omega)))) fun a hA => ?_
       refine rg hA 15 45055 rfl rfl rfl hS (fun w hH => (q_loadW hH 9 rfl Tryd.underlying39 rfl ti39 rfl (by first | omega | (simp; done) | (simp; omega) | (rw [List.length_map]; assumption) | assumption | rfl | (simp [*]; done) | (simp [*]; omega)))) fun a hA => ?_
       refine rg hA 16 110591 rfl rfl rfl hS (fun w hH => (q_loadW hH 8 rfl Tryd.underlying24 rfl ti24 rfl (by first | omega | (simp; done) | (simp; omega) | (rw [List.length_map]; assumption) | assumption | rfl | (simp [*]; done) | (simp [*]; omega)))) fun a hA => ?_
       refine pg hA 17 241663 rfl rfl rfl (fun w => (q_move rfl)) fun a hA => ?_
       refine pg hA 19 765951 rfl rfl rfl (fun w => (q_move rfl)) fun a hA => ?_
       refine pg hA 20 1814527 rfl rfl rfl (fun w => (q_move rfl)) fun a hA => ?_
       refine g1 hA 12 1818623 rfl rfl rfl (lo_call fn18 rfl (own20_any _ _ (hH.rd hr) (by first | omega | (simp; done) | (simp; omega)))) ?_
       rintro _ w ⟨v_t81, N_t81, rfl, hO_t81, hC⟩
       replace hH := HS.call0 hH hC
       clear hC
       replace hS := hH.pick [1, 2, 3, 4, 5, 6, 7, 8, 9, 10, 11] (Hs' := [_, _, _, _, _, _, _, _, _, _, _]) rfl
       refine ⟨fun _ _ => hS, ?_⟩
       intro a hA
       refine pg hA 14 1835007 rfl rfl rfl (fun w => (q_buildC (css := [[v_t81], _]) (z := [(.slice none 0 0), (.slice none 0 0), (I 0), (.slice none 0 0), (.slice none 0 0)]) (BT.mk (pl := [(0, 1), (1, 1), (2, 3)]) (it := Tryd.t29) (by kernel_rfl) Tryd.underlying29 (by kernel_rfl) (by kernel_rfl)) rfl ⟨cells_one (Own.one hO_t81), ⟨_, rfl, by first | rfl | (simp [Value.cells]; done) | (simp [Value.cells, *]; done), by decide⟩, rfl, ⟨_, rfl, by first | rfl | (simp [Value.cells]; done) | (simp [Value.cells, *]; done), by decide⟩, trivial⟩)) fun a hA => ?_
       replace hH := hH.pick [2, 0, 1, 3, 4, 5, 6, 7, 8, 9, 10, 11] (Hs' := [_, _, _, _, _, _, _, _, _, _, _, _]) rfl
       refine g1 hA 18 2097151 rfl rfl rfl (lo_call fn30 rfl (public7_any _ _ _ _ hPl _ _ _ hshp (by first | exact Nat.zero_le _ | omega | decide) (by first | assumption | omega | decide) (HS.handed (Ns1 := [_]) hH))) ?_
       rintro _ w ⟨rfl, hC⟩
       replace hH := HS.call (Ns1 := [_]) hH hC
       clear hC
       replace hS := hH.pick [2, 0, 3, 4, 5, 6, 7, 8, 9, 10, 11] (Hs' := [_, _, _, _, _, _, _, _, _, _, _]) rfl
       refine ⟨fun _ _ => hS, ?_⟩
       intro a hA
       refine g1 hA 21 4194303 rfl rfl rfl (lo_call fn24 rfl (check20_any (hg.mono0 hH) _ _ _ _ By.nilV (Own.rd0 hO_t81 hH 1 rfl) (by first | omega | (simp; done) | (simp; omega)) (by first | omega | (simp; done) | (simp; omega)) _ _ _ _ _ (by first | assumption | exact Dg.nil) (by first | assumption | exact Dg.nil) (Own.rd0 hOo_t66 hH 3 rfl) (Own.rd0 hOp_t66 hH 4 rfl) (by first | omega | (simp; done) | (simp; omega)) (by first | omega | (simp; done) | (simp; omega)) (by omega) (by omega) (by omega) _ (by first | assumption | rfl) (by first | assumption | exact ts9_of (by decide)) _ (by first | assumption | (rw [List.length_map]; assumption) | rfl | exact sha_length _ | (simp; done) | (simp [*]; done) | omega) _ (by first | assumption | (rw [List.length_map]; assumption) | rfl | exact sha_length _ | (simp; done) | (simp [*]; done) | omega) _ _ (by first | omega | decide))) ?_
       rintro _ w ⟨rfl, hC⟩
       replace hH := HS.call0 hH hC
       clear hC
       replace hS := hH.pick [2, 0, 3, 4, 5, 6, 7, 8, 9, 10, 11] (Hs' := [_, _, _, _, _, _, _, _, _, _, _]) rfl
       refine ⟨fun _ _ => hS, ?_⟩
       intro a hA
       refine pg hA 22 8388607 rfl rfl rfl (fun w => (q_eqlI (n := 0) rfl rfl)) fun a hA => ?_
       refine p0 hA 23 16777215 rfl (fun w => (q_pick_t rfl rfl)) fun a hA => ?_
       replace hA := hA.decT (by exact congrArg (fun x : Nat => (x : Int)) (chkR_o (by omega) ⟨hx.symm, sig_right _ _ hR (by omega)⟩))
       refine p0 hA 24 33554431 rfl (fun w => (q_move rfl)) fun a hA => ?_
       refine g1 hA 25 67108863 rfl rfl rfl (lo_call fn15 rfl (awake20_any (hg.mono0 hH))) ?_
       rintro _ w ⟨rfl, hC⟩
       replace hH := HS.call0 hH hC
       clear hC
       replace hS := hH.pick [2, 0, 3, 4, 5, 6, 7, 8, 9, 10, 11] (Hs' := [_, _, _, _, _, _, _, _, _, _, _]) rfl
       refine ⟨fun _ _ => hS, ?_⟩
       intro a hA
       refine p0 hA 26 134217727 rfl (fun w => (q_pick_t rfl rfl)) fun a hA => ?_
       refine p0 hA 27 268435455 rfl (fun w => (q_assign rfl)) fun a hA => ?_
       refine a_end (by kernel_rfl) ?_ _
       refine hK14 _ _ ?_
       clear hK14
       replace hA := hA.s1 12
       refine wp_ret ?_
       refine post_ret hA (res_1 rfl hA rfl) ?_
       replace hH := hH.pick [] (Hs' := []) rfl
       exact ⟨_, rfl, rfl, hH⟩
  ·skip
   refine pg hA 7 255 rfl rfl rfl (fun w => (q_not rfl)) fun a hA => ?_
   refine p0 hA 8 511 rfl (fun w => (q_pick_f rfl rfl)) fun a hA => ?_
   refine p0 hA 9 1023 rfl (fun w => (q_move rfl)) fun a hA => ?_
   refine ps hA 10 2047 rfl rfl rfl fun a hA => ?_
   refine ps hA 11 4095 rfl rfl rfl fun a hA => ?_
   refine ps hA 12 8191 rfl rfl rfl fun a hA => ?_
   refine p0 hA 13 16383 rfl (fun w => (q_pick_t rfl rfl)) fun a hA => ?_
   refine p0 hA 14 32767 rfl (fun w => (q_move rfl)) fun a hA => ?_
   refine ps hA 15 65535 rfl rfl rfl fun a hA => ?_
   refine ps hA 16 131071 rfl rfl rfl fun a hA => ?_
   refine ps hA 17 262143 rfl rfl rfl fun a hA => ?_
   refine p0 hA 18 524287 rfl (fun w => (q_pick_t rfl rfl)) fun a hA => ?_
   refine p0 hA 19 1048575 rfl (fun w => (q_move rfl)) fun a hA => ?_
   refine ps hA 20 2097151 rfl rfl rfl fun a hA => ?_
   refine ps hA 21 4194303 rfl rfl rfl fun a hA => ?_
   refine ps hA 22 8388607 rfl rfl rfl fun a hA => ?_
   refine ps hA 23 16777215 rfl rfl rfl fun a hA => ?_
   refine ps hA 24 33554431 rfl rfl rfl fun a hA => ?_
   refine p0 hA 25 67108863 rfl (fun w => (q_pick_t rfl rfl)) fun a hA => ?_
   refine a_end (by kernel_rfl) ?_ _
   refine hK3 _ _ ?_
   clear hK3
   replace hA := hA.s8 43 12 9 7 6 2 4 5
   refine cond_t hA rfl ?_
   refine wp_seq_k fun K15 hK15 => ?_
   refine wp_region_lit ?_
   refine sl hA (lo_call fn15 rfl (awake20_any (hg.mono0 hH))) rfl ?_
   rintro _ w ⟨rfl, hC⟩ a hA
   replace hH := HS.call0 hH hC
   clear hC
   refine asg hA fun a hA => ?_
   refine wpList_nil ?_
   refine hK15 _ _ ?_
   clear hK15
   replace hA := hA.s7 12 9 7 6 2 4 5
   refine wp_ret ?_
   refine then_ret ?_
   refine post_ret hA (res_1 rfl hA rfl) ?_
   replace hH := hH.pick [] (Hs' := []) rfl
   exact ⟨_, rfl, rfl, hH⟩

end Go.Proofs.YtnnkgdijaekcfaaDoor
