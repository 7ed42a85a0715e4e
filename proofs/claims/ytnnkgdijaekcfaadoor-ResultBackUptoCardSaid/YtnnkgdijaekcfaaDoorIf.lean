/- Layer 20 (result): the laws ResultReads, ResultBack. -/
import Derived.Test.YtnnkgdijaekcfaaDoorIe
namespace Go.Proofs.YtnnkgdijaekcfaaDoor
open Go
set_option linter.unusedVariables false
set_option linter.unusedSimpArgs false
set_option maxRecDepth 100000

theorem dec20_g {w0 : World} (v : Value) (l : Bs) (hr : By [] w0 v l) (hl : l.length ≤ 1048576) (n h : Int) {D : (Bs × Bs × Nat × List Bs × List Bs) × Nat} (hD : D = decR n h l) : Calls Tryd.prog 31 #[v, I n, I h] w0 (Ret fun r w' => ∃ a b u x N0 N1 N2 N3, r = .tuple #[.agg #[a, b, I D.1.2.2.1, u, x], I D.2] ∧ Ow B8 5 a D.1.1 N0 ∧ Ow B8 5 b D.1.2.1 N1 ∧ OwD 24 u D.1.2.2.2.1 N2 ∧ OwD 24 x D.1.2.2.2.2 N3 ∧ HS [] w0 w' [N0, N1, N2, N3]) := by
  rw [hD]
  exact dec20_any v l hr hl n h
theorem refdec20_g {w0 : World} (v : Value) (l : Bs) (hr : By [] w0 v l) (hl : l.length ≤ 1048576) (n h : Int) {D : (Bs × Bs × Nat × List Bs × List Bs) × Nat} (hD : D = decR n h l) : Calls Tryd.prog 32 #[v, I n, I h] w0 (Ret fun r w' => ∃ a b u x N0 N1 N2 N3, r = .tuple #[.agg #[a, b, I D.1.2.2.1, u, x], I D.2] ∧ Ow B8 5 a D.1.1 N0 ∧ Ow B8 5 b D.1.2.1 N1 ∧ OwD 24 u D.1.2.2.2.1 N2 ∧ OwD 24 x D.1.2.2.2.2 N3 ∧ HS [] w0 w' [N0, N1, N2, N3]) := by
  rw [hD]
  exact refdec20_any v l hr hl n h
set_option maxHeartbeats 1000000 in
theorem resultReads_any {w0 : World} {lv : Nat} (hg : Gl lv w0) (v : Value) (l : Bs) (hr : By [] w0 v l) (hl : l.length ≤ 1048576) (n h : Int) :
    Calls Tryd.prog 7 #[v, I n, I h] w0 (Ret fun r w' => r = .bool true ∧ HS [] w0 w' []) := by
 have hH := HS.start w0
 refine start (n := 56) (E := [(0, _), (1, _), (2, _)]) Tryd.func7 rfl rfl rfl (args_look rfl) ?_
 intro a hA
 obtain ⟨D, hD⟩ : ∃ D, D = decR n h l := ⟨_, rfl⟩
 obtain ⟨hD1, hD2, hD3, hD4, hD5, hD6, hD7⟩ := decR_len hD
 have hdet := decR_det hD
 refine wp_seq_k fun K1 hK1 => ?_
 refine wp_region_lit ?_
 refine asg hA fun a hA => ?_
 refine wpList_nil ?_
 refine hK1 _ _ ?_
 clear hK1
 refine wp_seq_k fun K2 hK2 => ?_
 refine wp_seq_k fun K3 hK3 => ?_
 refine wp_region_lit ?_
 refine mv hA fun a hA => ?_
 refine mv hA fun a hA => ?_
 refine sl hA (lo_call fn23 rfl (glaw20_any _ _)) rfl ?_
 rintro _ w ⟨rfl, hC⟩ a hA
 replace hH := HS.call0 hH hC
 clear hC
 refine hA.spl (fun hs13 hA => ?_) (fun hs13 hA => ?_)
 ·skip
  refine mv hA fun a hA => ?_
  refine gs hA rfl rfl rfl rfl fun a hA => ?_
  refine gs hA rfl rfl rfl rfl fun a hA => ?_
  refine gs hA rfl rfl rfl rfl fun a hA => ?_
  refine sq hA (q_pick_t rfl rfl) rfl fun a hA => ?_
  refine wpList_nil ?_
  refine hK3 _ _ ?_
  clear hK3
  replace hA := hA.s5 18 6 0 1 2
  refine cond_t hA rfl ?_
  refine wp_seq_k fun K4 hK4 => ?_
  refine wp_region_lit ?_
  refine sl hA (lo_call fn15 rfl (awake20_any (hg.mono0 hH))) rfl ?_
  rintro _ w ⟨rfl, hC⟩ a hA
  replace hH := HS.call0 hH hC
  clear hC
  refine asg hA fun a hA => ?_
  refine wpList_nil ?_
  refine hK4 _ _ ?_
  clear hK4
  replace hA := hA.s4 6 0 1 2
  refine wp_ret ?_
  refine then_ret ?_
  refine post_ret hA (res_1 rfl hA rfl) ?_
  exact ⟨_, rfl, rfl, hH⟩
 ·skip
  refine mv hA fun a hA => ?_
  refine gq hA rfl rfl (q_move rfl) rfl fun a hA => ?_
  refine gq hA rfl rfl (q_len Tryd.underlying22 rfl (Rd.shp hr)) rfl fun a hA => ?_
  refine gq hA rfl rfl (q_gtrI (n := 4000) rfl rfl) rfl fun a hA => ?_
  refine hA.spl (fun hs17 hA => ?_) (fun hs17 hA => ?_)
  ·skip
   refine sq hA (q_pick_f rfl rfl) rfl fun a hA => ?_
   refine wpList_nil ?_
   refine hK3 _ _ ?_
   clear hK3
   replace hA := hA.s5 18 6 0 1 2
   refine cond_t hA rfl ?_
   refine wp_seq_k fun K5 hK5 => ?_
   refine wp_region_lit ?_
   refine sl hA (lo_call fn15 rfl (awake20_any (hg.mono0 hH))) rfl ?_
   rintro _ w ⟨rfl, hC⟩ a hA
   replace hH := HS.call0 hH hC
   clear hC
   refine asg hA fun a hA => ?_
   refine wpList_nil ?_
   refine hK5 _ _ ?_
   clear hK5
   replace hA := hA.s4 6 0 1 2
   refine wp_ret ?_
   refine then_ret ?_
   refine post_ret hA (res_1 rfl hA rfl) ?_
   exact ⟨_, rfl, rfl, hH⟩
  ·skip
   refine sq hA (q_pick_f rfl rfl) rfl fun a hA => ?_
   refine wpList_nil ?_
   refine hK3 _ _ ?_
   clear hK3
   replace hA := hA.s5 18 6 0 1 2
   refine cond_f hA rfl ?_
   refine wp_skip ?_
   refine hK2 _ _ ?_
   clear hK2
   replace hA := hA.s4 6 0 1 2
   refine wp_seq_k fun K6 hK6 => ?_
   refine wp_region_lit ?_
   refine mv hA fun a hA => ?_
   refine sl hA (lo_call fn18 rfl (own20_any _ _ (hH.rd hr) (by first | omega | (simp; done) | (simp; omega)))) rfl ?_
   rintro _ w ⟨v_t22, N_t22, rfl, hO_t22, hC⟩ a hA
   replace hH := HS.call0 hH hC
   clear hC
   refine mv hA fun a hA => ?_
   refine mv hA fun a hA => ?_
   refine sl hA (lo_call fn31 rfl (dec20_g _ _ (Own.rd0 hO_t22 hH 0 rfl) (by first | omega | (simp; done) | (simp; omega)) _ _ hD)) rfl ?_
   rintro _ w ⟨v_at25, v_bt25, v_ot25, v_pt25, N_at25, N_bt25, N_ot25, N_pt25, rfl, hO_at25, hO_bt25, hO_ot25, hO_pt25, hC⟩ a hA
   replace hH := HS.call0 hH hC
   clear hC
   refine mv hA fun a hA => ?_
   refine sq hA (q_extract rfl rfl) rfl fun a hA => ?_
   refine sq hA (q_extract rfl rfl) rfl fun a hA => ?_
   refine sl hA (lo_allocA hH ti29) rfl ?_
   clear hH; rintro _ w ⟨b_t7, rfl, hH⟩ a hA
   refine s0 hA (lo_storeAm hH ti29 rfl rfl (rfl) (rfl) (ones_cons (Own.one hO_at25) (ones_cons (Own.one hO_bt25) (ones_cons rfl (ones_cons (Own.one hO_ot25) (ones_cons (Own.one hO_pt25) ones_nil)))))) ?_
   clear hH; rintro _ w hH
   refine asg hA fun a hA => ?_
   refine wpList_nil ?_
   refine hK6 _ _ ?_
   clear hK6
   replace hA := hA.s6 8 7 6 0 1 2
   refine wp_seq_k fun K7 hK7 => ?_
   refine wp_region_lit ?_
   refine mv hA fun a hA => ?_
   refine mv hA fun a hA => ?_
   refine mv hA fun a hA => ?_
   refine sl hA (lo_call fn32 rfl (refdec20_g _ _ (hH.rd hr) (by first | omega | (simp; done) | (simp; omega)) _ _ hD)) rfl ?_
   rintro _ w ⟨v_at32, v_bt32, v_ot32, v_pt32, N_at32, N_bt32, N_ot32, N_pt32, rfl, hO_at32, hO_bt32, hO_ot32, hO_pt32, hC⟩ a hA
   replace hH := HS.call0 hH hC
   clear hC
   refine mv hA fun a hA => ?_
   refine sq hA (q_extract rfl rfl) rfl fun a hA => ?_
   refine sq hA (q_extract rfl rfl) rfl fun a hA => ?_
   refine sl hA (lo_allocA hH ti29) rfl ?_
   clear hH; rintro _ w ⟨b_t9, rfl, hH⟩ a hA
   refine s0 hA (lo_storeAm hH ti29 rfl rfl (rfl) (rfl) (ones_cons (Own.one hO_at32) (ones_cons (Own.one hO_bt32) (ones_cons rfl (ones_cons (Own.one hO_ot32) (ones_cons (Own.one hO_pt32) ones_nil)))))) ?_
   clear hH; rintro _ w hH
   refine asg hA fun a hA => ?_
   refine wpList_nil ?_
   refine hK7 _ _ ?_
   clear hK7
   replace hA := hA.s6 10 9 8 7 6 0
   refine wp_seq_k fun K8 hK8 => ?_
   refine wp_region_lit ?_
   refine mv hA fun a hA => ?_
   refine mv hA fun a hA => ?_
   refine sq hA (q_eqlI rfl rfl) rfl fun a hA => ?_
   replace hA := hA.decT (by first | rfl | omega | assumption | (simp; done) | (simp [*]; done))
   refine mv hA fun a hA => ?_
   refine gq hA rfl rfl (q_loadW hH 5 rfl Tryd.underlying29 rfl ti29 rfl (by first | omega | (simp; done) | (simp; omega) | (rw [List.length_map]; assumption) | assumption | rfl | (simp [*]; done) | (simp [*]; omega))) rfl fun a hA => ?_
   refine gq hA rfl rfl (q_loadW hH 0 rfl Tryd.underlying29 rfl ti29 rfl (by first | omega | (simp; done) | (simp; omega) | (rw [List.length_map]; assumption) | assumption | rfl | (simp [*]; done) | (simp [*]; omega))) rfl fun a hA => ?_
   refine gl hA rfl rfl (lo_call fn33 rfl (same20_any _ _ _ _ (Own.rd0 hO_at25 hH 6 rfl) (Own.rd0 hO_bt25 hH 7 rfl) (by first | omega | (simp; done) | (simp; omega)) (by first | omega | (simp; done) | (simp; omega)) _ _ _ _ _ (by first | assumption | exact Dg.nil) (by first | assumption | exact Dg.nil) (Own.rd0 hO_ot25 hH 8 rfl) (Own.rd0 hO_pt25 hH 9 rfl) (by first | omega | (simp; done) | (simp; omega)) (by first | omega | (simp; done) | (simp; omega)) _ _ _ _ (Own.rd0 hO_at32 hH 1 rfl) (Own.rd0 hO_bt32 hH 2 rfl) (by first | omega | (simp; done) | (simp; omega)) (by first | omega | (simp; done) | (simp; omega)) _ _ _ _ _ (by first | assumption | exact Dg.nil) (by first | assumption | exact Dg.nil) (Own.rd0 hO_ot32 hH 3 rfl) (Own.rd0 hO_pt32 hH 4 rfl) (by first | omega | (simp; done) | (simp; omega)) (by first | omega | (simp; done) | (simp; omega)))) rfl ?_
   rintro _ w ⟨rfl, hC⟩ a hA
   replace hH := HS.call0 hH hC
   clear hC
   refine sq hA (q_pick_t rfl rfl) rfl fun a hA => ?_
   replace hA := hA.decT (by exact ⟨rfl, rfl, rfl, rfl, rfl⟩)
   refine mv hA fun a hA => ?_
   refine gq hA rfl rfl (q_move rfl) rfl fun a hA => ?_
   refine gq hA rfl rfl (q_neqI (n := 0) rfl rfl) rfl fun a hA => ?_
   refine hA.spl (fun hs45 hA => ?_) (fun hs45 hA => ?_)
   ·skip
    refine gq hA rfl rfl (q_move rfl) rfl fun a hA => ?_
    refine gs hA rfl rfl rfl rfl fun a hA => ?_
    refine gs hA rfl rfl rfl rfl fun a hA => ?_
    refine gs hA rfl rfl rfl rfl fun a hA => ?_
    refine gs hA rfl rfl rfl rfl fun a hA => ?_
    refine gq hA rfl rfl (q_pick_t rfl rfl) rfl fun a hA => ?_
    refine sq hA (q_pick_t rfl rfl) rfl fun a hA => ?_
    refine mv hA fun a hA => ?_
    refine gl hA rfl rfl (lo_call fn15 rfl (awake20_any (hg.mono0 hH))) rfl ?_
    rintro _ w ⟨rfl, hC⟩ a hA
    replace hH := HS.call0 hH hC
    clear hC
    refine sq hA (q_pick_t rfl rfl) rfl fun a hA => ?_
    refine asg hA fun a hA => ?_
    refine wpList_nil ?_
    refine hK8 _ _ ?_
    clear hK8
    replace hA := hA.s1 6
    refine wp_ret ?_
    refine post_ret hA (res_1 rfl hA rfl) ?_
    replace hH := hH.pick [] (Hs' := []) rfl
    exact ⟨_, rfl, rfl, hH⟩
   ·skip
    have hde := hdet (by omega)
    have hdl := congrArg List.length hde
    refine gq hA rfl rfl (q_move rfl) rfl fun a hA => ?_
    refine gq hA rfl rfl (q_loadW hH 5 rfl Tryd.underlying29 rfl ti29 rfl (by first | omega | (simp; done) | (simp; omega) | (rw [List.length_map]; assumption) | assumption | rfl | (simp [*]; done) | (simp [*]; omega))) rfl fun a hA => ?_
    refine gl hA rfl rfl (lo_call fn20 rfl (enc20_any _ _ _ _ (Own.rd0 hO_at25 hH 6 rfl) (Own.rd0 hO_bt25 hH 7 rfl) (by first | omega | (simp; done) | (simp; omega)) (by first | omega | (simp; done) | (simp; omega)) _ _ _ _ _ (by first | assumption | exact Dg.nil) (by first | assumption | exact Dg.nil) (Own.rd0 hO_ot25 hH 8 rfl) (Own.rd0 hO_pt25 hH 9 rfl) (by first | omega | (simp; done) | (simp; omega)) (by first | omega | (simp; done) | (simp; omega)) (by omega) (by omega) (by omega))) rfl ?_
    rintro _ w ⟨v_t48, N_t48, rfl, hO_t48, hC⟩ a hA
    replace hH := HS.call0 hH hC
    clear hC
    refine gq hA rfl rfl (q_move rfl) rfl fun a hA => ?_
    refine gl hA rfl rfl (lo_call fn16 rfl (same_any _ _ _ _ (Own.rd0 hO_t48 hH 0 rfl) (hH.rd hr) (by first | omega | (simp; done) | (simp; omega)) (by first | omega | (simp; done) | (simp; omega)))) rfl ?_
    rintro _ w ⟨rfl, hC⟩ a hA
    replace hH := HS.call0 hH hC
    clear hC
    refine gq hA rfl rfl (q_pick_f rfl rfl) rfl fun a hA => ?_
    refine sq hA (q_pick_t rfl rfl) rfl fun a hA => ?_
    replace hA := hA.decT (by first | rfl | omega | assumption | (simp; done) | (simp [*]; done))
    refine mv hA fun a hA => ?_
    refine gl hA rfl rfl (lo_call fn15 rfl (awake20_any (hg.mono0 hH))) rfl ?_
    rintro _ w ⟨rfl, hC⟩ a hA
    replace hH := HS.call0 hH hC
    clear hC
    refine sq hA (q_pick_t rfl rfl) rfl fun a hA => ?_
    refine asg hA fun a hA => ?_
    refine wpList_nil ?_
    refine hK8 _ _ ?_
    clear hK8
    replace hA := hA.s1 6
    refine wp_ret ?_
    refine post_ret hA (res_1 rfl hA rfl) ?_
    replace hH := hH.pick [] (Hs' := []) rfl
    exact ⟨_, rfl, rfl, hH⟩

set_option maxHeartbeats 1000000 in
theorem resultBack_any {w0 : World} {lv : Nat} (hg : Gl lv w0) (tv vv : Value) (T V : Bs) (htv : By [] w0 tv T) (hvv : By [] w0 vv V) (hlT : T.length ≤ 1048576) (hlV : V.length ≤ 1048576) (ix : Int) (ua xa : Value) (A B : List Bs) (hdA : Dg A) (hdB : Dg B) (hua : RdD [] w0 ua A) (hxa : RdD [] w0 xa B) (hlA : A.length ≤ 1048576) (hlB : B.length ≤ 1048576) (hi9 : ix ≤ 9223372036854775807) (n h : Int) :
    Calls Tryd.prog 8 #[(.agg #[tv, vv, I ix, ua, xa]), I n, I h] w0 (Ret fun r w' => r = .bool true ∧ HS [] w0 w' []) := by
 have hH := HS.start w0
 refine start (n := 81) (E := [(0, _), (1, _), (2, _)]) Tryd.func8 rfl rfl rfl (args_look rfl) ?_
 intro a hA
 refine wp_seq_k fun K1 hK1 => ?_
 refine wp_region_lit ?_
 refine sl hA (lo_boxA hH rfl) rfl ?_
 clear hH; rintro _ w ⟨b_t3, rfl, hH⟩ a hA
 refine asg hA fun a hA => ?_
 refine wpList_nil ?_
 refine hK1 _ _ ?_
 clear hK1
 replace hA := hA.s4 6 3 1 2
 refine wp_seq_k fun K2 hK2 => ?_
 refine wp_seq_k fun K3 hK3 => ?_
 refine any_go mixed (fun _ => true) hH ?_
 clear hH; intro w hH
 have hS := hH
 refine any_l 52 ?_
 refine p0 hA 0 1 rfl (fun w => (q_move rfl)) fun a hA => ?_
 refine p0 hA 1 3 rfl (fun w => (q_move rfl)) fun a hA => ?_
 refine a1 hA 2 7 rfl (lo_call fn23 rfl (glaw20_any _ _)) ?_
 rintro _ w ⟨rfl, hC⟩
 replace hH := HS.call0 hH hC
 clear hC
 replace hS := hH.pick [0] (Hs' := [_]) rfl
 refine ⟨fun _ _ => hS, ?_⟩
 intro a hA
 refine hA.spl (fun hs11 hA => ?_) (fun hs11 hA => ?_)
 ·skip
  refine p0 hA 3 15 rfl (fun w => (q_move rfl)) fun a hA => ?_
  refine ps hA 4 31 rfl rfl rfl fun a hA => ?_
  refine ps hA 5 63 rfl rfl rfl fun a hA => ?_
  refine ps hA 6 127 rfl rfl rfl fun a hA => ?_
  refine ps hA 7 255 rfl rfl rfl fun a hA => ?_
  refine p0 hA 8 511 rfl (fun w => (q_pick_t rfl rfl)) fun a hA => ?_
  refine p0 hA 9 1023 rfl (fun w => (q_move rfl)) fun a hA => ?_
  refine ps hA 10 2047 rfl rfl rfl fun a hA => ?_
  refine ps hA 11 4095 rfl rfl rfl fun a hA => ?_
  refine ps hA 12 8191 rfl rfl rfl fun a hA => ?_
  refine ps hA 13 16383 rfl rfl rfl fun a hA => ?_
  refine p0 hA 14 32767 rfl (fun w => (q_pick_t rfl rfl)) fun a hA => ?_
  refine p0 hA 15 65535 rfl (fun w => (q_move rfl)) fun a hA => ?_
  refine ps hA 16 131071 rfl rfl rfl fun a hA => ?_
  refine ps hA 17 262143 rfl rfl rfl fun a hA => ?_
  refine ps hA 18 524287 rfl rfl rfl fun a hA => ?_
  refine ps hA 19 1048575 rfl rfl rfl fun a hA => ?_
  refine p0 hA 20 2097151 rfl (fun w => (q_pick_t rfl rfl)) fun a hA => ?_
  refine p0 hA 21 4194303 rfl (fun w => (q_move rfl)) fun a hA => ?_
  refine ps hA 22 8388607 rfl rfl rfl fun a hA => ?_
  refine ps hA 23 16777215 rfl rfl rfl fun a hA => ?_
  refine ps hA 24 33554431 rfl rfl rfl fun a hA => ?_
  refine ps hA 25 67108863 rfl rfl rfl fun a hA => ?_
  refine ps hA 26 134217727 rfl rfl rfl fun a hA => ?_
  refine ps hA 27 268435455 rfl rfl rfl fun a hA => ?_
  refine ps hA 28 536870911 rfl rfl rfl fun a hA => ?_
  refine p0 hA 29 1073741823 rfl (fun w => (q_pick_t rfl rfl)) fun a hA => ?_
  refine p0 hA 30 2147483647 rfl (fun w => (q_move rfl)) fun a hA => ?_
  refine ps hA 31 4294967295 rfl rfl rfl fun a hA => ?_
  refine ps hA 32 8589934591 rfl rfl rfl fun a hA => ?_
  refine ps hA 33 17179869183 rfl rfl rfl fun a hA => ?_
  refine ps hA 34 34359738367 rfl rfl rfl fun a hA => ?_
  refine ps hA 35 68719476735 rfl rfl rfl fun a hA => ?_
  refine ps hA 36 137438953471 rfl rfl rfl fun a hA => ?_
  refine p0 hA 37 274877906943 rfl (fun w => (q_pick_t rfl rfl)) fun a hA => ?_
  refine p0 hA 38 549755813887 rfl (fun w => (q_move rfl)) fun a hA => ?_
  refine ps hA 39 1099511627775 rfl rfl rfl fun a hA => ?_
  refine ps hA 40 2199023255551 rfl rfl rfl fun a hA => ?_
  refine ps hA 41 4398046511103 rfl rfl rfl fun a hA => ?_
  refine ps hA 42 8796093022207 rfl rfl rfl fun a hA => ?_
  refine p0 hA 43 17592186044415 rfl (fun w => (q_pick_t rfl rfl)) fun a hA => ?_
  refine p0 hA 44 35184372088831 rfl (fun w => (q_move rfl)) fun a hA => ?_
  refine ps hA 45 70368744177663 rfl rfl rfl fun a hA => ?_
  refine ps hA 46 140737488355327 rfl rfl rfl fun a hA => ?_
  refine ps hA 47 281474976710655 rfl rfl rfl fun a hA => ?_
  refine ps hA 48 562949953421311 rfl rfl rfl fun a hA => ?_
  refine ps hA 49 1125899906842623 rfl rfl rfl fun a hA => ?_
  refine ps hA 50 2251799813685247 rfl rfl rfl fun a hA => ?_
  refine p0 hA 51 4503599627370495 rfl (fun w => (q_pick_t rfl rfl)) fun a hA => ?_
  refine a_end (by kernel_rfl) ?_ _
  refine hK3 _ _ ?_
  clear hK3
  replace hA := hA.s5 60 6 3 1 2
  refine cond_t hA rfl ?_
  refine wp_seq_k fun K4 hK4 => ?_
  refine wp_region_lit ?_
  refine sl hA (lo_call fn15 rfl (awake20_any (hg.mono0 hH))) rfl ?_
  rintro _ w ⟨rfl, hC⟩ a hA
  replace hH := HS.call0 hH hC
  clear hC
  refine asg hA fun a hA => ?_
  refine wpList_nil ?_
  refine hK4 _ _ ?_
  clear hK4
  replace hA := hA.s4 6 3 1 2
  refine wp_ret ?_
  refine then_ret ?_
  refine post_ret hA (res_1 rfl hA rfl) ?_
  replace hH := hH.pick [] (Hs' := []) rfl
  exact ⟨_, rfl, rfl, hH⟩
 ·skip
  refine p0 hA 3 15 rfl (fun w => (q_move rfl)) fun a hA => ?_
  refine pg hA 4 31 rfl rfl rfl (fun w => (q_move rfl)) fun a hA => ?_
  refine pg hA 5 63 rfl rfl rfl (fun w => (q_move rfl)) fun a hA => ?_
  refine g1 hA 6 127 rfl rfl rfl (lo_call fn26 rfl (refright7_any _ _)) ?_
  rintro _ w ⟨rfl, hC⟩
  replace hH := HS.call0 hH hC
  clear hC
  replace hS := hH.pick [0] (Hs' := [_]) rfl
  refine ⟨fun _ _ => hS, ?_⟩
  intro a hA
  refine hA.spl (fun hs15 hA => ?_) (fun hs15 hA => ?_)
  ·skip
   have hR : R7 n h := by assumption
   obtain ⟨n, rfl⟩ : ∃ m : Nat, n = m := ⟨n.toNat, by unfold R7 R5 at *; omega⟩
   obtain ⟨h, rfl⟩ : ∃ m : Nat, h = m := ⟨h.toNat, by unfold R7 R5 at *; omega⟩
   have hn5 := hR.1
   have hn1 := hR.1.1
   have hn2 := hR.1.2
   have hh6 : h ≤ 6 := by have := hR.2.2; omega
   have h64 := pow_le64 hh6
   have hp0 : 0 < 2 ^ h := Nat.pow_pos (by decide)
   refine pg hA 7 255 rfl rfl rfl (fun w => (q_not rfl)) fun a hA => ?_
   refine p0 hA 8 511 rfl (fun w => (q_pick_f rfl rfl)) fun a hA => ?_
   refine p0 hA 9 1023 rfl (fun w => (q_move rfl)) fun a hA => ?_
   refine pg hA 10 2047 rfl rfl rfl (fun w => (q_fld 0 Tryd.underlying29 rfl rfl ti22 rfl)) fun a hA => ?_
   refine rg hA 11 4095 rfl rfl rfl hS (fun w hH => (q_loadB hH 0 rfl (List.mem_singleton.2 rfl) Tryd.underlying22 rfl rfl rfl)) fun a hA => ?_
   refine pg hA 12 8191 rfl rfl rfl (fun w => (q_len Tryd.underlying22 rfl (Rd.shp htv))) fun a hA => ?_
   refine pg hA 13 16383 rfl rfl rfl (fun w => (q_gtrI (n := 100) rfl rfl)) fun a hA => ?_
   refine hA.spl (fun hs22 hA => ?_) (fun hs22 hA => ?_)
   ·skip
    refine p0 hA 14 32767 rfl (fun w => (q_pick_f rfl rfl)) fun a hA => ?_
    refine p0 hA 15 65535 rfl (fun w => (q_move rfl)) fun a hA => ?_
    refine ps hA 16 131071 rfl rfl rfl fun a hA => ?_
    refine ps hA 17 262143 rfl rfl rfl fun a hA => ?_
    refine ps hA 18 524287 rfl rfl rfl fun a hA => ?_
    refine ps hA 19 1048575 rfl rfl rfl fun a hA => ?_
    refine p0 hA 20 2097151 rfl (fun w => (q_pick_t rfl rfl)) fun a hA => ?_
    refine p0 hA 21 4194303 rfl (fun w => (q_move rfl)) fun a hA => ?_
    refine ps hA 22 8388607 rfl rfl rfl fun a hA => ?_
    refine ps hA 23 16777215 rfl rfl rfl fun a hA => ?_
    refine ps hA 24 33554431 rfl rfl rfl fun a hA => ?_
    refine ps hA 25 67108863 rfl rfl rfl fun a hA => ?_
    refine ps hA 26 134217727 rfl rfl rfl fun a hA => ?_
    refine ps hA 27 268435455 rfl rfl rfl fun a hA => ?_
    refine ps hA 28 536870911 rfl rfl rfl fun a hA => ?_
    refine p0 hA 29 1073741823 rfl (fun w => (q_pick_t rfl rfl)) fun a hA => ?_
    refine p0 hA 30 2147483647 rfl (fun w => (q_move rfl)) fun a hA => ?_
    refine ps hA 31 4294967295 rfl rfl rfl fun a hA => ?_
    refine ps hA 32 8589934591 rfl rfl rfl fun a hA => ?_
    refine ps hA 33 17179869183 rfl rfl rfl fun a hA => ?_
    refine ps hA 34 34359738367 rfl rfl rfl fun a hA => ?_
    refine ps hA 35 68719476735 rfl rfl rfl fun a hA => ?_
    refine ps hA 36 137438953471 rfl rfl rfl fun a hA => ?_
    refine p0 hA 37 274877906943 rfl (fun w => (q_pick_t rfl rfl)) fun a hA => ?_
    refine p0 hA 38 549755813887 rfl (fun w => (q_move rfl)) fun a hA => ?_
    refine ps hA 39 1099511627775 rfl rfl rfl fun a hA => ?_
    refine ps hA 40 2199023255551 rfl rfl rfl fun a hA => ?_
    refine ps hA 41 4398046511103 rfl rfl rfl fun a hA => ?_
    refine ps hA 42 8796093022207 rfl rfl rfl fun a hA => ?_
    refine p0 hA 43 17592186044415 rfl (fun w => (q_pick_t rfl rfl)) fun a hA => ?_
    refine p0 hA 44 35184372088831 rfl (fun w => (q_move rfl)) fun a hA => ?_
    refine ps hA 45 70368744177663 rfl rfl rfl fun a hA => ?_
    refine ps hA 46 140737488355327 rfl rfl rfl fun a hA => ?_
    refine ps hA 47 281474976710655 rfl rfl rfl fun a hA => ?_
    refine ps hA 48 562949953421311 rfl rfl rfl fun a hA => ?_
    refine ps hA 49 1125899906842623 rfl rfl rfl fun a hA => ?_
    refine ps hA 50 2251799813685247 rfl rfl rfl fun a hA => ?_
    refine p0 hA 51 4503599627370495 rfl (fun w => (q_pick_t rfl rfl)) fun a hA => ?_
    refine a_end (by kernel_rfl) ?_ _
    refine hK3 _ _ ?_
    clear hK3
    replace hA := hA.s5 60 6 3 1 2
    refine cond_t hA rfl ?_
    refine wp_seq_k fun K5 hK5 => ?_
    refine wp_region_lit ?_
    refine sl hA (lo_call fn15 rfl (awake20_any (hg.mono0 hH))) rfl ?_
    rintro _ w ⟨rfl, hC⟩ a hA
    replace hH := HS.call0 hH hC
    clear hC
    refine asg hA fun a hA => ?_
    refine wpList_nil ?_
    refine hK5 _ _ ?_
    clear hK5
    replace hA := hA.s4 6 3 1 2
    refine wp_ret ?_
    refine then_ret ?_
    refine post_ret hA (res_1 rfl hA rfl) ?_
    replace hH := hH.pick [] (Hs' := []) rfl
    exact ⟨_, rfl, rfl, hH⟩
   ·skip
    refine p0 hA 14 32767 rfl (fun w => (q_pick_f rfl rfl)) fun a hA => ?_
    refine p0 hA 15 65535 rfl (fun w => (q_move rfl)) fun a hA => ?_
    refine pg hA 16 131071 rfl rfl rfl (fun w => (q_fld 1 Tryd.underlying29 rfl rfl ti22 rfl)) fun a hA => ?_
    refine rg hA 17 262143 rfl rfl rfl hS (fun w hH => (q_loadB hH 0 rfl (List.mem_singleton.2 rfl) Tryd.underlying22 rfl rfl rfl)) fun a hA => ?_
    refine pg hA 18 524287 rfl rfl rfl (fun w => (q_len Tryd.underlying22 rfl (Rd.shp hvv))) fun a hA => ?_
    refine pg hA 19 1048575 rfl rfl rfl (fun w => (q_gtrI (n := 32) rfl rfl)) fun a hA => ?_
    refine hA.spl (fun hs28 hA => ?_) (fun hs28 hA => ?_)
    ·skip
     refine p0 hA 20 2097151 rfl (fun w => (q_pick_f rfl rfl)) fun a hA => ?_
     refine p0 hA 21 4194303 rfl (fun w => (q_move rfl)) fun a hA => ?_
     refine ps hA 22 8388607 rfl rfl rfl fun a hA => ?_
     refine ps hA 23 16777215 rfl rfl rfl fun a hA => ?_
     refine ps hA 24 33554431 rfl rfl rfl fun a hA => ?_
     refine ps hA 25 67108863 rfl rfl rfl fun a hA => ?_
     refine ps hA 26 134217727 rfl rfl rfl fun a hA => ?_
     refine ps hA 27 268435455 rfl rfl rfl fun a hA => ?_
     refine ps hA 28 536870911 rfl rfl rfl fun a hA => ?_
     refine p0 hA 29 1073741823 rfl (fun w => (q_pick_t rfl rfl)) fun a hA => ?_
     refine p0 hA 30 2147483647 rfl (fun w => (q_move rfl)) fun a hA => ?_
     refine ps hA 31 4294967295 rfl rfl rfl fun a hA => ?_
     refine ps hA 32 8589934591 rfl rfl rfl fun a hA => ?_
     refine ps hA 33 17179869183 rfl rfl rfl fun a hA => ?_
     refine ps hA 34 34359738367 rfl rfl rfl fun a hA => ?_
     refine ps hA 35 68719476735 rfl rfl rfl fun a hA => ?_
     refine ps hA 36 137438953471 rfl rfl rfl fun a hA => ?_
     refine p0 hA 37 274877906943 rfl (fun w => (q_pick_t rfl rfl)) fun a hA => ?_
     refine p0 hA 38 549755813887 rfl (fun w => (q_move rfl)) fun a hA => ?_
     refine ps hA 39 1099511627775 rfl rfl rfl fun a hA => ?_
     refine ps hA 40 2199023255551 rfl rfl rfl fun a hA => ?_
     refine ps hA 41 4398046511103 rfl rfl rfl fun a hA => ?_
     refine ps hA 42 8796093022207 rfl rfl rfl fun a hA => ?_
     refine p0 hA 43 17592186044415 rfl (fun w => (q_pick_t rfl rfl)) fun a hA => ?_
     refine p0 hA 44 35184372088831 rfl (fun w => (q_move rfl)) fun a hA => ?_
     refine ps hA 45 70368744177663 rfl rfl rfl fun a hA => ?_
     refine ps hA 46 140737488355327 rfl rfl rfl fun a hA => ?_
     refine ps hA 47 281474976710655 rfl rfl rfl fun a hA => ?_
     refine ps hA 48 562949953421311 rfl rfl rfl fun a hA => ?_
     refine ps hA 49 1125899906842623 rfl rfl rfl fun a hA => ?_
     refine ps hA 50 2251799813685247 rfl rfl rfl fun a hA => ?_
     refine p0 hA 51 4503599627370495 rfl (fun w => (q_pick_t rfl rfl)) fun a hA => ?_
     refine a_end (by kernel_rfl) ?_ _
     refine hK3 _ _ ?_
     clear hK3
     replace hA := hA.s5 60 6 3 1 2
     refine cond_t hA rfl ?_
     refine wp_seq_k fun K6 hK6 => ?_
     refine wp_region_lit ?_
     refine sl hA (lo_call fn15 rfl (awake20_any (hg.mono0 hH))) rfl ?_
     rintro _ w ⟨rfl, hC⟩ a hA
     replace hH := HS.call0 hH hC
     clear hC
     refine asg hA fun a hA => ?_
     refine wpList_nil ?_
     refine hK6 _ _ ?_
     clear hK6
     replace hA := hA.s4 6 3 1 2
     refine wp_ret ?_
     refine then_ret ?_
     refine post_ret hA (res_1 rfl hA rfl) ?_
     replace hH := hH.pick [] (Hs' := []) rfl
     exact ⟨_, rfl, rfl, hH⟩
    ·skip
     refine p0 hA 20 2097151 rfl (fun w => (q_pick_f rfl rfl)) fun a hA => ?_
     refine p0 hA 21 4194303 rfl (fun w => (q_move rfl)) fun a hA => ?_
     refine pg hA 22 8388607 rfl rfl rfl (fun w => (q_fld 2 Tryd.underlying29 rfl rfl ti27 rfl)) fun a hA => ?_
     refine pg hA 23 16777215 rfl rfl rfl (fun w => (q_fldo 2 3 Tryd.underlying27 rfl rfl ti25 rfl)) fun a hA => ?_
     refine rg hA 24 33554431 rfl rfl rfl hS (fun w hH => (q_loadB hH 0 rfl (List.mem_singleton.2 rfl) Tryd.underlying25 rfl rfl rfl)) fun a hA => ?_
     refine pg hA 25 67108863 rfl rfl rfl (fun w => (q_len Tryd.underlying25 rfl (Rd.shp hua))) fun a hA => ?_
     refine pg hA 26 134217727 rfl rfl rfl (fun w => (q_move rfl)) fun a hA => ?_
     refine pg hA 27 268435455 rfl rfl rfl (fun w => (q_mulI (m := 2) rfl rfl (by omega))) fun a hA => ?_
     refine pg hA 28 536870911 rfl rfl rfl (fun w => (q_neqI rfl rfl)) fun a hA => ?_
     refine hA.spl (fun hs37 hA => ?_) (fun hs37 hA => ?_)
     ·skip
      refine p0 hA 29 1073741823 rfl (fun w => (q_pick_f rfl rfl)) fun a hA => ?_
      refine p0 hA 30 2147483647 rfl (fun w => (q_move rfl)) fun a hA => ?_
      refine ps hA 31 4294967295 rfl rfl rfl fun a hA => ?_
      refine ps hA 32 8589934591 rfl rfl rfl fun a hA => ?_
      refine ps hA 33 17179869183 rfl rfl rfl fun a hA => ?_
      refine ps hA 34 34359738367 rfl rfl rfl fun a hA => ?_
      refine ps hA 35 68719476735 rfl rfl rfl fun a hA => ?_
      refine ps hA 36 137438953471 rfl rfl rfl fun a hA => ?_
      refine p0 hA 37 274877906943 rfl (fun w => (q_pick_t rfl rfl)) fun a hA => ?_
      refine p0 hA 38 549755813887 rfl (fun w => (q_move rfl)) fun a hA => ?_
      refine ps hA 39 1099511627775 rfl rfl rfl fun a hA => ?_
      refine ps hA 40 2199023255551 rfl rfl rfl fun a hA => ?_
      refine ps hA 41 4398046511103 rfl rfl rfl fun a hA => ?_
      refine ps hA 42 8796093022207 rfl rfl rfl fun a hA => ?_
      refine p0 hA 43 17592186044415 rfl (fun w => (q_pick_t rfl rfl)) fun a hA => ?_
      refine p0 hA 44 35184372088831 rfl (fun w => (q_move rfl)) fun a hA => ?_
      refine ps hA 45 70368744177663 rfl rfl rfl fun a hA => ?_
      refine ps hA 46 140737488355327 rfl rfl rfl fun a hA => ?_
      refine ps hA 47 281474976710655 rfl rfl rfl fun a hA => ?_
      refine ps hA 48 562949953421311 rfl rfl rfl fun a hA => ?_
      refine ps hA 49 1125899906842623 rfl rfl rfl fun a hA => ?_
      refine ps hA 50 2251799813685247 rfl rfl rfl fun a hA => ?_
      refine p0 hA 51 4503599627370495 rfl (fun w => (q_pick_t rfl rfl)) fun a hA => ?_
      refine a_end (by kernel_rfl) ?_ _
      refine hK3 _ _ ?_
      clear hK3
      replace hA := hA.s5 60 6 3 1 2
      refine cond_t hA rfl ?_
      refine wp_seq_k fun K7 hK7 => ?_
      refine wp_region_lit ?_
      refine sl hA (lo_call fn15 rfl (awake20_any (hg.mono0 hH))) rfl ?_
      rintro _ w ⟨rfl, hC⟩ a hA
      replace hH := HS.call0 hH hC
      clear hC
      refine asg hA fun a hA => ?_
      refine wpList_nil ?_
      refine hK7 _ _ ?_
      clear hK7
      replace hA := hA.s4 6 3 1 2
      refine wp_ret ?_
      refine then_ret ?_
      refine post_ret hA (res_1 rfl hA rfl) ?_
      replace hH := hH.pick [] (Hs' := []) rfl
      exact ⟨_, rfl, rfl, hH⟩
     ·skip
      refine p0 hA 29 1073741823 rfl (fun w => (q_pick_f rfl rfl)) fun a hA => ?_
      refine p0 hA 30 2147483647 rfl (fun w => (q_move rfl)) fun a hA => ?_
      refine pg hA 31 4294967295 rfl rfl rfl (fun w => (q_fld 2 Tryd.underlying29 rfl rfl ti27 rfl)) fun a hA => ?_
      refine pg hA 32 8589934591 rfl rfl rfl (fun w => (q_fldo 2 4 Tryd.underlying27 rfl rfl ti25 rfl)) fun a hA => ?_
      refine rg hA 33 17179869183 rfl rfl rfl hS (fun w hH => (q_loadB hH 0 rfl (List.mem_singleton.2 rfl) Tryd.underlying25 rfl rfl rfl)) fun a hA => ?_
      refine pg hA 34 34359738367 rfl rfl rfl (fun w => (q_len Tryd.underlying25 rfl (Rd.shp hxa))) fun a hA => ?_
      refine pg hA 35 68719476735 rfl rfl rfl (fun w => (q_move rfl)) fun a hA => ?_
      refine pg hA 36 137438953471 rfl rfl rfl (fun w => (q_neqI rfl rfl)) fun a hA => ?_
      refine hA.spl (fun hs45 hA => ?_) (fun hs45 hA => ?_)
      ·skip
       refine p0 hA 37 274877906943 rfl (fun w => (q_pick_f rfl rfl)) fun a hA => ?_
       refine p0 hA 38 549755813887 rfl (fun w => (q_move rfl)) fun a hA => ?_
       refine ps hA 39 1099511627775 rfl rfl rfl fun a hA => ?_
       refine ps hA 40 2199023255551 rfl rfl rfl fun a hA => ?_
       refine ps hA 41 4398046511103 rfl rfl rfl fun a hA => ?_
       refine ps hA 42 8796093022207 rfl rfl rfl fun a hA => ?_
       refine p0 hA 43 17592186044415 rfl (fun w => (q_pick_t rfl rfl)) fun a hA => ?_
       refine p0 hA 44 35184372088831 rfl (fun w => (q_move rfl)) fun a hA => ?_
       refine ps hA 45 70368744177663 rfl rfl rfl fun a hA => ?_
       refine ps hA 46 140737488355327 rfl rfl rfl fun a hA => ?_
       refine ps hA 47 281474976710655 rfl rfl rfl fun a hA => ?_
       refine ps hA 48 562949953421311 rfl rfl rfl fun a hA => ?_
       refine ps hA 49 1125899906842623 rfl rfl rfl fun a hA => ?_
       refine ps hA 50 2251799813685247 rfl rfl rfl fun a hA => ?_
       refine p0 hA 51 4503599627370495 rfl (fun w => (q_pick_t rfl rfl)) fun a hA => ?_
       refine a_end (by kernel_rfl) ?_ _
       refine hK3 _ _ ?_
       clear hK3
       replace hA := hA.s5 60 6 3 1 2
       refine cond_t hA rfl ?_
       refine wp_seq_k fun K8 hK8 => ?_
       refine wp_region_lit ?_
       refine sl hA (lo_call fn15 rfl (awake20_any (hg.mono0 hH))) rfl ?_
       rintro _ w ⟨rfl, hC⟩ a hA
       replace hH := HS.call0 hH hC
       clear hC
       refine asg hA fun a hA => ?_
       refine wpList_nil ?_
       refine hK8 _ _ ?_
       clear hK8
       replace hA := hA.s4 6 3 1 2
       refine wp_ret ?_
       refine then_ret ?_
       refine post_ret hA (res_1 rfl hA rfl) ?_
       replace hH := hH.pick [] (Hs' := []) rfl
       exact ⟨_, rfl, rfl, hH⟩
      ·skip
       refine p0 hA 37 274877906943 rfl (fun w => (q_pick_f rfl rfl)) fun a hA => ?_
       refine p0 hA 38 549755813887 rfl (fun w => (q_move rfl)) fun a hA => ?_
       refine pg hA 39 1099511627775 rfl rfl rfl (fun w => (q_fld 2 Tryd.underlying29 rfl rfl ti27 rfl)) fun a hA => ?_
       refine pg hA 40 2199023255551 rfl rfl rfl (fun w => (q_fldo 2 2 Tryd.underlying27 rfl rfl ti3 rfl)) fun a hA => ?_
       refine rg hA 41 4398046511103 rfl rfl rfl hS (fun w hH => (q_loadB hH 0 rfl (List.mem_singleton.2 rfl) Tryd.underlying3 rfl rfl rfl)) fun a hA => ?_
       refine pg hA 42 8796093022207 rfl rfl rfl (fun w => (q_lssI (n := 0) rfl rfl)) fun a hA => ?_
       refine hA.spl (fun hs51 hA => ?_) (fun hs51 hA => ?_)
       ·skip
        refine p0 hA 43 17592186044415 rfl (fun w => (q_pick_f rfl rfl)) fun a hA => ?_
        refine p0 hA 44 35184372088831 rfl (fun w => (q_move rfl)) fun a hA => ?_
        refine ps hA 45 70368744177663 rfl rfl rfl fun a hA => ?_
        refine ps hA 46 140737488355327 rfl rfl rfl fun a hA => ?_
        refine ps hA 47 281474976710655 rfl rfl rfl fun a hA => ?_
        refine ps hA 48 562949953421311 rfl rfl rfl fun a hA => ?_
        refine ps hA 49 1125899906842623 rfl rfl rfl fun a hA => ?_
        refine ps hA 50 2251799813685247 rfl rfl rfl fun a hA => ?_
        refine p0 hA 51 4503599627370495 rfl (fun w => (q_pick_t rfl rfl)) fun a hA => ?_
        refine a_end (by kernel_rfl) ?_ _
        refine hK3 _ _ ?_
        clear hK3
        replace hA := hA.s5 60 6 3 1 2
        refine cond_t hA rfl ?_
        refine wp_seq_k fun K9 hK9 => ?_
        refine wp_region_lit ?_
        refine sl hA (lo_call fn15 rfl (awake20_any (hg.mono0 hH))) rfl ?_
        rintro _ w ⟨rfl, hC⟩ a hA
        replace hH := HS.call0 hH hC
        clear hC
        refine asg hA fun a hA => ?_
        refine wpList_nil ?_
        refine hK9 _ _ ?_
        clear hK9
        replace hA := hA.s4 6 3 1 2
        refine wp_ret ?_
        refine then_ret ?_
        refine post_ret hA (res_1 rfl hA rfl) ?_
        replace hH := hH.pick [] (Hs' := []) rfl
        exact ⟨_, rfl, rfl, hH⟩
       ·skip
        refine p0 hA 43 17592186044415 rfl (fun w => (q_pick_f rfl rfl)) fun a hA => ?_
        refine p0 hA 44 35184372088831 rfl (fun w => (q_move rfl)) fun a hA => ?_
        refine pg hA 45 70368744177663 rfl rfl rfl (fun w => (q_fld 2 Tryd.underlying29 rfl rfl ti27 rfl)) fun a hA => ?_
        refine pg hA 46 140737488355327 rfl rfl rfl (fun w => (q_fldo 2 2 Tryd.underlying27 rfl rfl ti3 rfl)) fun a hA => ?_
        refine rg hA 47 281474976710655 rfl rfl rfl hS (fun w hH => (q_loadB hH 0 rfl (List.mem_singleton.2 rfl) Tryd.underlying3 rfl rfl rfl)) fun a hA => ?_
        refine pg hA 48 562949953421311 rfl rfl rfl (fun w => (q_move rfl)) fun a hA => ?_
        refine pg hA 49 1125899906842623 rfl rfl rfl (fun w => (q_shlI (m := 1) (n := h) ((2 ^ h : Nat) : Int) rfl rfl (by omega) (by push_cast; rfl) (by omega))) fun a hA => ?_
        rw [Int.one_mul] at hA
        refine pg hA 50 2251799813685247 rfl rfl rfl (fun w => (q_geqI rfl rfl)) fun a hA => ?_
        refine hA.spl (fun hs59 hA => ?_) (fun hs59 hA => ?_)
        ·skip
         refine p0 hA 51 4503599627370495 rfl (fun w => (q_pick_f rfl rfl)) fun a hA => ?_
         refine a_end (by kernel_rfl) ?_ _
         refine hK3 _ _ ?_
         clear hK3
         replace hA := hA.s5 60 6 3 1 2
         refine cond_t hA rfl ?_
         refine wp_seq_k fun K10 hK10 => ?_
         refine wp_region_lit ?_
         refine sl hA (lo_call fn15 rfl (awake20_any (hg.mono0 hH))) rfl ?_
         rintro _ w ⟨rfl, hC⟩ a hA
         replace hH := HS.call0 hH hC
         clear hC
         refine asg hA fun a hA => ?_
         refine wpList_nil ?_
         refine hK10 _ _ ?_
         clear hK10
         replace hA := hA.s4 6 3 1 2
         refine wp_ret ?_
         refine then_ret ?_
         refine post_ret hA (res_1 rfl hA rfl) ?_
         replace hH := hH.pick [] (Hs' := []) rfl
         exact ⟨_, rfl, rfl, hH⟩
        ·skip
         obtain ⟨m, rfl⟩ : ∃ m : Nat, ix = m := ⟨ix.toNat, by omega⟩
         have hel := encK_len hi9 hdA hdB
         have hrl := encR_len (u := T) (v := V) (E := encK m A B) hlT hlV (by omega)
         have hDe := decR_back (u := T) (v := V) (i := m) hR (by omega) (by omega) (by omega) hdA hdB (by omega) (by omega)
         refine p0 hA 51 4503599627370495 rfl (fun w => (q_pick_f rfl rfl)) fun a hA => ?_
         refine a_end (by kernel_rfl) ?_ _
         refine hK3 _ _ ?_
         clear hK3
         replace hA := hA.s5 60 6 3 1 2
         refine cond_f hA rfl ?_
         refine wp_skip ?_
         refine hK2 _ _ ?_
         clear hK2
         replace hA := hA.s4 6 3 1 2
         refine wp_seq_k fun K11 hK11 => ?_
         refine wp_region_lit ?_
         refine sq hA (q_loadW hH 0 rfl Tryd.underlying29 rfl ti29 rfl (by first | omega | (simp; done) | (simp; omega) | (rw [List.length_map]; assumption) | assumption | rfl | (simp [*]; done) | (simp [*]; omega))) rfl fun a hA => ?_
         refine sl hA (lo_call fn21 rfl (copy20_any _ _ _ _ (hH.rd htv) (hH.rd hvv) (by first | omega | (simp; done) | (simp; omega)) (by first | omega | (simp; done) | (simp; omega)) _ _ _ _ _ (by first | assumption | exact Dg.nil) (by first | assumption | exact Dg.nil) (hH.rd hua) (hH.rd hxa) (by first | omega | (simp; done) | (simp; omega)) (by first | omega | (simp; done) | (simp; omega)))) rfl ?_
         rintro _ w ⟨v_at64, v_bt64, v_ot64, v_pt64, N_at64, N_bt64, N_ot64, N_pt64, rfl, hO_at64, hO_bt64, hO_ot64, hO_pt64, hC⟩ a hA
         replace hH := HS.call0 hH hC
         clear hC
         refine sl hA (lo_call fn20 rfl (enc20_any _ _ _ _ (Own.rd0 hO_at64 hH 0 rfl) (Own.rd0 hO_bt64 hH 1 rfl) (by first | omega | (simp; done) | (simp; omega)) (by first | omega | (simp; done) | (simp; omega)) _ _ _ _ _ (by first | assumption | exact Dg.nil) (by first | assumption | exact Dg.nil) (Own.rd0 hO_ot64 hH 2 rfl) (Own.rd0 hO_pt64 hH 3 rfl) (by first | omega | (simp; done) | (simp; omega)) (by first | omega | (simp; done) | (simp; omega)) (by omega) (by omega) (by omega))) rfl ?_
         rintro _ w ⟨v_t65, N_t65, rfl, hO_t65, hC⟩ a hA
         replace hH := HS.call0 hH hC
         clear hC
         refine mv hA fun a hA => ?_
         refine mv hA fun a hA => ?_
         refine sl hA (lo_call fn31 rfl (dec20_g _ _ (Own.rd0 hO_t65 hH 0 rfl) (by first | omega | (simp; done) | (simp; omega)) _ _ (D := ((T, V, m, A, B), 0)) hDe.symm)) rfl ?_
         rintro _ w ⟨v_at68, v_bt68, v_ot68, v_pt68, N_at68, N_bt68, N_ot68, N_pt68, rfl, hO_at68, hO_bt68, hO_ot68, hO_pt68, hC⟩ a hA
         replace hH := HS.call0 hH hC
         clear hC
         refine mv hA fun a hA => ?_
         refine sq hA (q_extract rfl rfl) rfl fun a hA => ?_
         refine sq hA (q_extract rfl rfl) rfl fun a hA => ?_
         refine sl hA (lo_allocA hH ti29) rfl ?_
         clear hH; rintro _ w ⟨b_t7, rfl, hH⟩ a hA
         refine s0 hA (lo_storeAm hH ti29 rfl rfl (rfl) (rfl) (ones_cons (Own.one hO_at68) (ones_cons (Own.one hO_bt68) (ones_cons rfl (ones_cons (Own.one hO_ot68) (ones_cons (Own.one hO_pt68) ones_nil)))))) ?_
         clear hH; rintro _ w hH
         refine asg hA fun a hA => ?_
         refine wpList_nil ?_
         refine hK11 _ _ ?_
         clear hK11
         replace hA := hA.s4 8 7 6 3
         refine wp_seq_k fun K12 hK12 => ?_
         refine wp_region_lit ?_
         refine mv hA fun a hA => ?_
         refine sq hA (q_eqlI (n := 0) rfl rfl) rfl fun a hA => ?_
         replace hA := hA.decT (by first | rfl | omega | assumption | (simp; done) | (simp [*]; done))
         refine mv hA fun a hA => ?_
         refine gq hA rfl rfl (q_loadW hH 10 rfl Tryd.underlying29 rfl ti29 rfl (by first | omega | (simp; done) | (simp; omega) | (rw [List.length_map]; assumption) | assumption | rfl | (simp [*]; done) | (simp [*]; omega))) rfl fun a hA => ?_
         refine gq hA rfl rfl (q_loadW hH 0 rfl Tryd.underlying29 rfl ti29 rfl (by first | omega | (simp; done) | (simp; omega) | (rw [List.length_map]; assumption) | assumption | rfl | (simp [*]; done) | (simp [*]; omega))) rfl fun a hA => ?_
         refine gl hA rfl rfl (lo_call fn33 rfl (same20_any _ _ _ _ (hH.rd htv) (hH.rd hvv) (by first | omega | (simp; done) | (simp; omega)) (by first | omega | (simp; done) | (simp; omega)) _ _ _ _ _ (by first | assumption | exact Dg.nil) (by first | assumption | exact Dg.nil) (hH.rd hua) (hH.rd hxa) (by first | omega | (simp; done) | (simp; omega)) (by first | omega | (simp; done) | (simp; omega)) _ _ _ _ (Own.rd0 hO_at68 hH 1 rfl) (Own.rd0 hO_bt68 hH 2 rfl) (by first | omega | (simp; done) | (simp; omega)) (by first | omega | (simp; done) | (simp; omega)) _ _ _ _ _ (by first | assumption | exact Dg.nil) (by first | assumption | exact Dg.nil) (Own.rd0 hO_ot68 hH 3 rfl) (Own.rd0 hO_pt68 hH 4 rfl) (by first | omega | (simp; done) | (simp; omega)) (by first | omega | (simp; done) | (simp; omega)))) rfl ?_
         rintro _ w ⟨rfl, hC⟩ a hA
         replace hH := HS.call0 hH hC
         clear hC
         refine sq hA (q_pick_t rfl rfl) rfl fun a hA => ?_
         replace hA := hA.decT (by exact ⟨rfl, rfl, rfl, rfl, rfl⟩)
         refine mv hA fun a hA => ?_
         refine gl hA rfl rfl (lo_call fn15 rfl (awake20_any (hg.mono0 hH))) rfl ?_
         rintro _ w ⟨rfl, hC⟩ a hA
         replace hH := HS.call0 hH hC
         clear hC
         refine sq hA (q_pick_t rfl rfl) rfl fun a hA => ?_
         refine asg hA fun a hA => ?_
         refine wpList_nil ?_
         refine hK12 _ _ ?_
         clear hK12
         replace hA := hA.s1 6
         refine wp_ret ?_
         refine post_ret hA (res_1 rfl hA rfl) ?_
         replace hH := hH.pick [] (Hs' := []) rfl
         exact ⟨_, rfl, rfl, hH⟩
  ·skip
   refine pg hA 7 255 rfl rfl rfl (fun w => (q_not rfl)) fun a hA => ?_
   refine p0 hA 8 511 rfl (fun w => (q_pick_f rfl rfl)) fun a hA => ?_
   refine p0 hA 9 1023 rfl (fun w => (q_move rfl)) fun a hA => ?_
   refine ps hA 10 2047 rfl rfl rfl fun a hA => ?_
   refine ps hA 11 4095 rfl rfl rfl fun a hA => ?_
   refine ps hA 12 8191 rfl rfl rfl fun a hA => ?_
   refine ps hA 13 16383 rfl rfl rfl fun a hA => ?_
   refine p0 hA 14 32767 rfl (fun w => (q_pick_t rfl rfl)) fun a hA => ?_
   refine p0 hA 15 65535 rfl (fun w => (q_move rfl)) fun a hA => ?_
   refine ps hA 16 131071 rfl rfl rfl fun a hA => ?_
   refine ps hA 17 262143 rfl rfl rfl fun a hA => ?_
   refine ps hA 18 524287 rfl rfl rfl fun a hA => ?_
   refine ps hA 19 1048575 rfl rfl rfl fun a hA => ?_
   refine p0 hA 20 2097151 rfl (fun w => (q_pick_t rfl rfl)) fun a hA => ?_
   refine p0 hA 21 4194303 rfl (fun w => (q_move rfl)) fun a hA => ?_
   refine ps hA 22 8388607 rfl rfl rfl fun a hA => ?_
   refine ps hA 23 16777215 rfl rfl rfl fun a hA => ?_
   refine ps hA 24 33554431 rfl rfl rfl fun a hA => ?_
   refine ps hA 25 67108863 rfl rfl rfl fun a hA => ?_
   refine ps hA 26 134217727 rfl rfl rfl fun a hA => ?_
   refine ps hA 27 268435455 rfl rfl rfl fun a hA => ?_
   refine ps hA 28 536870911 rfl rfl rfl fun a hA => ?_
   refine p0 hA 29 1073741823 rfl (fun w => (q_pick_t rfl rfl)) fun a hA => ?_
   refine p0 hA 30 2147483647 rfl (fun w => (q_move rfl)) fun a hA => ?_
   refine ps hA 31 4294967295 rfl rfl rfl fun a hA => ?_
   refine ps hA 32 8589934591 rfl rfl rfl fun a hA => ?_
   refine ps hA 33 17179869183 rfl rfl rfl fun a hA => ?_
   refine ps hA 34 34359738367 rfl rfl rfl fun a hA => ?_
   refine ps hA 35 68719476735 rfl rfl rfl fun a hA => ?_
   refine ps hA 36 137438953471 rfl rfl rfl fun a hA => ?_
   refine p0 hA 37 274877906943 rfl (fun w => (q_pick_t rfl rfl)) fun a hA => ?_
   refine p0 hA 38 549755813887 rfl (fun w => (q_move rfl)) fun a hA => ?_
   refine ps hA 39 1099511627775 rfl rfl rfl fun a hA => ?_
   refine ps hA 40 2199023255551 rfl rfl rfl fun a hA => ?_
   refine ps hA 41 4398046511103 rfl rfl rfl fun a hA => ?_
   refine ps hA 42 8796093022207 rfl rfl rfl fun a hA => ?_
   refine p0 hA 43 17592186044415 rfl (fun w => (q_pick_t rfl rfl)) fun a hA => ?_
   refine p0 hA 44 35184372088831 rfl (fun w => (q_move rfl)) fun a hA => ?_
   refine ps hA 45 70368744177663 rfl rfl rfl fun a hA => ?_
   refine ps hA 46 140737488355327 rfl rfl rfl fun a hA => ?_
   refine ps hA 47 281474976710655 rfl rfl rfl fun a hA => ?_
   refine ps hA 48 562949953421311 rfl rfl rfl fun a hA => ?_
   refine ps hA 49 1125899906842623 rfl rfl rfl fun a hA => ?_
   refine ps hA 50 2251799813685247 rfl rfl rfl fun a hA => ?_
   refine p0 hA 51 4503599627370495 rfl (fun w => (q_pick_t rfl rfl)) fun a hA => ?_
   refine a_end (by kernel_rfl) ?_ _
   refine hK3 _ _ ?_
   clear hK3
   replace hA := hA.s5 60 6 3 1 2
   refine cond_t hA rfl ?_
   refine wp_seq_k fun K13 hK13 => ?_
   refine wp_region_lit ?_
   refine sl hA (lo_call fn15 rfl (awake20_any (hg.mono0 hH))) rfl ?_
   rintro _ w ⟨rfl, hC⟩ a hA
   replace hH := HS.call0 hH hC
   clear hC
   refine asg hA fun a hA => ?_
   refine wpList_nil ?_
   refine hK13 _ _ ?_
   clear hK13
   replace hA := hA.s4 6 3 1 2
   refine wp_ret ?_
   refine then_ret ?_
   refine post_ret hA (res_1 rfl hA rfl) ?_
   replace hH := hH.pick [] (Hs' := []) rfl
   exact ⟨_, rfl, rfl, hH⟩

end Go.Proofs.YtnnkgdijaekcfaaDoor
