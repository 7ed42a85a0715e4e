/- Layer 22 (worker): the laws WorkerNil, WorkerOrders, WorkerRight. -/
import Derived.Test.YtnnkgdijaekcfaaDoorKg
namespace Go.Proofs.YtnnkgdijaekcfaaDoor
open Go
set_option linter.unusedVariables false
set_option linter.unusedSimpArgs false
set_option maxRecDepth 100000

theorem encw_g {w0 : World} {lv : Nat} (hg : Gl lv w0) (key : Bs) (hkey : key.length = 32) (jj aa ii : Int) (tv pv : Value) (T Pl : Bs) (htv : By [] w0 tv T) (hpv : By [] w0 pv Pl) (hlT : T.length ≤ 1048576) (hlP : Pl.length ≤ 1048576) (nn : Bs) (hnn : nn.length = 32) {E : Bs × Nat} (hE : E = encO key jj aa ii T Pl nn) : Calls Tryd.prog 36 #[(.agg ((key).map B8).toArray), (.agg (ordC jj aa ii tv pv nn).toArray)] w0 (Ret fun r w' => ∃ v' N, r = .tuple #[v', I E.2] ∧ Ow B8 5 v' E.1 N ∧ HS [] w0 w' [N]) := by
  rw [hE]
  exact encw_any hg key hkey jj aa ii tv pv T Pl htv hpv hlT hlP nn hnn
theorem refencw_g {w0 : World} {lv : Nat} (hg : Gl (lv + 2) w0) (key : Bs) (hkey : key.length = 32) (jj aa ii : Int) (tv pv : Value) (T Pl : Bs) (htv : By [] w0 tv T) (hpv : By [] w0 pv Pl) (hlT : T.length ≤ 1048576) (hlP : Pl.length ≤ 1048576) (nn : Bs) (hnn : nn.length = 32) {E : Bs × Nat} (hE : E = encO key jj aa ii T Pl nn) : Calls Tryd.prog 38 #[(.agg ((key).map B8).toArray), (.agg (ordC jj aa ii tv pv nn).toArray)] w0 (Ret fun r w' => ∃ v' N, r = .tuple #[v', I E.2] ∧ Ow B8 5 v' E.1 N ∧ HS [] w0 w' [N]) := by
  rw [hE]
  exact refencw_any hg key hkey jj aa ii tv pv T Pl htv hpv hlT hlP nn hnn
theorem refdecw_g {w0 : World} {lv : Nat} (hg : Gl (lv + 2) w0) (key : Bs) (hkey : key.length = 32) (v : Value) (l : Bs) (hr : By [] w0 v l) (hl : l.length ≤ 1000000) {D : (Nat × Nat × Nat × Bs × Bs × Bs) × Nat} (hD : D = decO key l) : Calls Tryd.prog 40 #[(.agg ((key).map B8).toArray), v] w0 (Ret fun r w' => ∃ t p N1 N2, r = .tuple #[.agg (ordC D.1.1 D.1.2.1 D.1.2.2.1 t p D.1.2.2.2.2.2).toArray, I D.2] ∧ Ow B8 5 t D.1.2.2.2.1 N1 ∧ Ow B8 5 p D.1.2.2.2.2.1 N2 ∧ HS [] w0 w' [N1, N2]) := by
  rw [hD]
  exact refdecw_any hg key hkey v l hr hl
theorem encO_len (key : Bs) (j a i : Int) (T P : Bs) {n : Bs} (hn : n.length = 32) : (encO key j a i T P n).1.length ≤ 400 := by
  by_cases h : MayO j a i T P
  · rw [encO_ok h]
    obtain ⟨⟨a1, a2⟩, ⟨a3, a4⟩, ⟨a5, a6⟩, a7, a8⟩ := h
    have h1 := bodyO_len (j := j.toNat) (a := a.toNat) (i := i.toNat) (T := T) (P := P) (n := n) (by omega) (by omega) (by omega) (by omega) (by omega) hn
    have h2 := macV_length key (bodyO j.toNat a.toNat i.toNat T P n)
    simp only [List.length_append]; omega
  · rw [encO_bad h]; simp
set_option maxHeartbeats 1000000 in
theorem workerOrders_any {w0 : World} (hg : Gl 2 w0) (key : Bs) (hkey : key.length = 32) (jj aa ii : Int) (tv pv : Value) (T Pl : Bs) (htv : By [] w0 tv T) (hpv : By [] w0 pv Pl) (hlT : T.length ≤ 1048576) (hlP : Pl.length ≤ 1048576) (nn : Bs) (hnn : nn.length = 32) (v : Value) (l : Bs) (hr : By [] w0 v l) (hl : l.length ≤ 1048576) :
    Calls Tryd.prog 9 #[(.agg ((key).map B8).toArray), (.agg (ordC jj aa ii tv pv nn).toArray), v] w0 (Ret fun r w' => r = .bool true ∧ HS [] w0 w' []) := by
 have hH := HS.start w0
 refine start (n := 118) (E := [(0, _), (1, _), (2, _)]) Tryd.func9 rfl rfl rfl (args_look rfl) ?_
 intro a hA
 obtain ⟨D, hD⟩ : ∃ D, D = decO key l := ⟨_, rfl⟩
 have hDn : D.1.2.2.2.2.2.length = 32 := by rw [hD]; exact decO_n key l
 have hDl : D.1.2.2.2.1.length ≤ l.length ∧ D.1.2.2.2.2.1.length ≤ l.length := by rw [hD]; exact decO_len key l
 obtain ⟨E, hE⟩ : ∃ E, E = encO key jj aa ii T Pl nn := ⟨_, rfl⟩
 have hEl := encO_len key jj aa ii T Pl hnn
 rw [← hE] at hEl
 have hr8 := rightV_length Pl
 refine wp_seq_k fun K1 hK1 => ?_
 refine wp_region_lit ?_
 refine sl hA (lo_boxA hH rfl) rfl ?_
 clear hH; rintro _ w ⟨b_t3, rfl, hH⟩ a hA
 refine sl hA (lo_boxA hH rfl) rfl ?_
 clear hH; rintro _ w ⟨b_t4, rfl, hH⟩ a hA
 refine asg hA fun a hA => ?_
 refine wpList_nil ?_
 refine hK1 _ _ ?_
 clear hK1
 replace hA := hA.s4 6 4 3 2
 refine wp_seq_k fun K2 hK2 => ?_
 refine wp_seq_k fun K3 hK3 => ?_
 refine wp_region_lit ?_
 refine sq hA (q_loadW hH 0 rfl Tryd.underlying64 rfl ti64 rfl (by first | rfl | exact ordC_length hnn)) rfl fun a hA => ?_
 refine sl hA (lo_call fn34 rfl (great22_any _ _ _ _ _ _ _ (hH.rd htv) (hH.rd hpv) (by first | omega | (simp; done) | (simp; omega)) (by first | omega | (simp; done) | (simp; omega)) _ (by first | assumption | (rw [List.length_map]; assumption) | rfl | exact sha_length _ | (simp; done) | (simp [*]; done) | omega))) rfl ?_
 rintro _ w ⟨rfl, hC⟩ a hA
 replace hH := HS.call0 hH hC
 clear hC
 refine hA.spl (fun hs20 hA => ?_) (fun hs20 hA => ?_)
 ·skip
  refine mv hA fun a hA => ?_
  refine gs hA rfl rfl rfl rfl fun a hA => ?_
  refine gs hA rfl rfl rfl rfl fun a hA => ?_
  refine gs hA rfl rfl rfl rfl fun a hA => ?_
  refine sq hA (q_pick_t rfl rfl) rfl fun a hA => ?_
  refine wpList_nil ?_
  refine hK3 _ _ ?_
  clear hK3
  replace hA := hA.s5 25 6 4 3 2
  refine cond_t hA rfl ?_
  refine wp_seq_k fun K4 hK4 => ?_
  refine wp_region_lit ?_
  refine sl hA (lo_call fn35 rfl (awake22_any (hg.mono0 hH))) rfl ?_
  rintro _ w ⟨rfl, hC⟩ a hA
  replace hH := HS.call0 hH hC
  clear hC
  refine asg hA fun a hA => ?_
  refine wpList_nil ?_
  refine hK4 _ _ ?_
  clear hK4
  replace hA := hA.s4 6 4 3 2
  refine wp_ret ?_
  refine then_ret ?_
  refine post_ret hA (res_1 rfl hA rfl) ?_
  replace hH := hH.pick [] (Hs' := []) rfl
  exact ⟨_, rfl, rfl, hH⟩
 ·skip
  refine mv hA fun a hA => ?_
  refine gq hA rfl rfl (q_move rfl) rfl fun a hA => ?_
  refine gq hA rfl rfl (q_len Tryd.underlying22 rfl (Rd.shp hr)) rfl fun a hA => ?_
  refine gq hA rfl rfl (q_gtrI (n := 500) rfl rfl) rfl fun a hA => ?_
  refine hA.spl (fun hs24 hA => ?_) (fun hs24 hA => ?_)
  ·skip
   refine sq hA (q_pick_f rfl rfl) rfl fun a hA => ?_
   refine wpList_nil ?_
   refine hK3 _ _ ?_
   clear hK3
   replace hA := hA.s5 25 6 4 3 2
   refine cond_t hA rfl ?_
   refine wp_seq_k fun K5 hK5 => ?_
   refine wp_region_lit ?_
   refine sl hA (lo_call fn35 rfl (awake22_any (hg.mono0 hH))) rfl ?_
   rintro _ w ⟨rfl, hC⟩ a hA
   replace hH := HS.call0 hH hC
   clear hC
   refine asg hA fun a hA => ?_
   refine wpList_nil ?_
   refine hK5 _ _ ?_
   clear hK5
   replace hA := hA.s4 6 4 3 2
   refine wp_ret ?_
   refine then_ret ?_
   refine post_ret hA (res_1 rfl hA rfl) ?_
   replace hH := hH.pick [] (Hs' := []) rfl
   exact ⟨_, rfl, rfl, hH⟩
  ·skip
   refine sq hA (q_pick_f rfl rfl) rfl fun a hA => ?_
   refine wpList_nil ?_
   refine hK3 _ _ ?_
   clear hK3
   replace hA := hA.s5 25 6 4 3 2
   refine cond_f hA rfl ?_
   refine wp_skip ?_
   refine hK2 _ _ ?_
   clear hK2
   replace hA := hA.s4 6 4 3 2
   refine wp_seq_k fun K6 hK6 => ?_
   refine any_go mixed (fun _ => true) hH ?_
   clear hH; intro w hH
   have hS := hH
   refine any_l 9 ?_
   refine r0 hA 0 1 rfl hS (fun w hH => (q_loadW hH 1 rfl Tryd.underlying24 rfl ti24 rfl (by first | omega | (simp; done) | (simp; omega) | (rw [List.length_map]; assumption) | assumption | rfl | (simp [*]; done) | (simp [*]; omega)))) fun a hA => ?_
   refine r0 hA 1 3 rfl hS (fun w hH => (q_loadW hH 0 rfl Tryd.underlying64 rfl ti64 rfl (by first | rfl | exact ordC_length hnn))) fun a hA => ?_
   refine a1 hA 2 7 rfl (lo_call fn37 rfl (own22_any _ _ _ _ _ _ _ (hH.rd htv) (hH.rd hpv) (by first | omega | (simp; done) | (simp; omega)) (by first | omega | (simp; done) | (simp; omega)) _ (by first | assumption | (rw [List.length_map]; assumption) | rfl | exact sha_length _ | (simp; done) | (simp [*]; done) | omega))) ?_
   rintro _ w ⟨v_at30, v_bt30, N_at30, N_bt30, rfl, hO_at30, hO_bt30, hC⟩
   replace hH := HS.call0 hH hC
   clear hC
   replace hS := hH.pick [2, 3] (Hs' := [_, _]) rfl
   refine ⟨fun _ _ => hS, ?_⟩
   intro a hA
   refine a1 hA 3 15 rfl (lo_call fn36 rfl (encw_g (hg.mono0 hH) _ (by first | assumption | (rw [List.length_map]; assumption) | rfl | exact sha_length _ | (simp; done) | (simp [*]; done) | omega) _ _ _ _ _ _ _ (Own.rd0 hO_at30 hH 0 rfl) (Own.rd0 hO_bt30 hH 1 rfl) (by first | omega | (simp; done) | (simp; omega)) (by first | omega | (simp; done) | (simp; omega)) _ (by first | assumption | (rw [List.length_map]; assumption) | rfl | exact sha_length _ | (simp; done) | (simp [*]; done) | omega) hE)) ?_
   rintro _ w ⟨v_t31, N_t31, rfl, hO_t31, hC⟩
   replace hH := HS.call0 hH hC
   clear hC
   replace hS := hH.pick [3, 4] (Hs' := [_, _]) rfl
   refine ⟨fun _ _ => hS, ?_⟩
   intro a hA
   refine p0 hA 4 31 rfl (fun w => (q_move rfl)) fun a hA => ?_
   refine p0 hA 5 63 rfl (fun w => (q_extract rfl rfl)) fun a hA => ?_
   refine p0 hA 6 127 rfl (fun w => (q_extract rfl rfl)) fun a hA => ?_
   refine p0 hA 7 255 rfl (fun w => (q_assign rfl)) fun a hA => ?_
   refine p0 hA 8 511 rfl (fun w => (q_assign rfl)) fun a hA => ?_
   refine a_end (by kernel_rfl) ?_ _
   refine hK6 _ _ ?_
   clear hK6
   replace hA := hA.s6 8 7 6 4 3 2
   refine wp_seq_k fun K7 hK7 => ?_
   refine wp_region_lit ?_
   refine sq hA (q_loadW hH 4 rfl Tryd.underlying24 rfl ti24 rfl (by first | omega | (simp; done) | (simp; omega) | (rw [List.length_map]; assumption) | assumption | rfl | (simp [*]; done) | (simp [*]; omega))) rfl fun a hA => ?_
   refine sq hA (q_loadW hH 3 rfl Tryd.underlying64 rfl ti64 rfl (by first | rfl | exact ordC_length hnn)) rfl fun a hA => ?_
   refine sl hA (lo_call fn38 rfl (refencw_g (hg.mono0 hH) _ (by first | assumption | (rw [List.length_map]; assumption) | rfl | exact sha_length _ | (simp; done) | (simp [*]; done) | omega) _ _ _ _ _ _ _ (hH.rd htv) (hH.rd hpv) (by first | omega | (simp; done) | (simp; omega)) (by first | omega | (simp; done) | (simp; omega)) _ (by first | assumption | (rw [List.length_map]; assumption) | rfl | exact sha_length _ | (simp; done) | (simp [*]; done) | omega) hE)) rfl ?_
   rintro _ w ⟨v_t37, N_t37, rfl, hO_t37, hC⟩ a hA
   replace hH := HS.call0 hH hC
   clear hC
   refine mv hA fun a hA => ?_
   refine sq hA (q_extract rfl rfl) rfl fun a hA => ?_
   refine sq hA (q_extract rfl rfl) rfl fun a hA => ?_
   refine asg hA fun a hA => ?_
   refine asg hA fun a hA => ?_
   refine wpList_nil ?_
   refine hK7 _ _ ?_
   clear hK7
   replace hA := hA.s8 10 9 8 7 6 4 3 2
   refine wp_seq_k fun K8 hK8 => ?_
   refine any_go mixed (fun j => !(Nat.beq j 4 || Nat.beq j 9)) hH ?_
   clear hH; intro w hH
   have hS := hH
   refine any_l 11 ?_
   refine r0 hA 0 1 rfl hS (fun w hH => (q_loadW hH 5 rfl Tryd.underlying24 rfl ti24 rfl (by first | omega | (simp; done) | (simp; omega) | (rw [List.length_map]; assumption) | assumption | rfl | (simp [*]; done) | (simp [*]; omega)))) fun a hA => ?_
   refine p0 hA 2 5 rfl (fun w => (q_move rfl)) fun a hA => ?_
   refine a_ch2 (i := 1) (j := 8) (by kernel_rfl) ?_ ?_
   ·skip
    refine o1 hA 1 7 rfl (lo_bs (f := B8) (e := 5) ([]) hH rfl rfl (fun w => by kernel_rfl)) ?_
    clear hH; rintro v_t42 w ⟨N_t42, hO_t42, hH⟩
    replace hS := hH.pick [1, 2, 3, 4, 5, 6] (Hs' := [_, _, _, _, _, _]) rfl
    refine ⟨fun _ _ => hS, ?_⟩
    intro a hA
    refine a_ch2 (i := 3) (j := 8) (by kernel_rfl) ?_ ?_
    ·skip
     refine o1 hA 3 15 rfl (lo_appm hH Tryd.underlying22 Tryd.underlying22 (.inl rfl) ti5 rfl rfl rfl hO_t42 (Rd.src (hH.rd hr)) (one_B8 _) (by first | omega | (simp; done) | (simp; omega)) (by first | omega | (simp; done) | (simp; omega))) ?_
     clear hH; rintro v_t44 w ⟨N_t44, hO_t44, hH⟩
     replace hS := hH.pick [1, 2, 3, 4, 5, 6] (Hs' := [_, _, _, _, _, _]) rfl
     refine ⟨fun _ _ => hS, ?_⟩
     intro a hA
     refine a_ch2 (i := 4) (j := 8) (by kernel_rfl) ?_ ?_
     ·skip
      refine o1n hA 4 31 rfl (lo_call fn39 rfl (decw_g (hg.mono0 hH) _ (by first | assumption | (rw [List.length_map]; assumption) | rfl | exact sha_length _ | (simp; done) | (simp [*]; done) | omega) _ _ (Own.rd0 hO_t44 hH 0 rfl) (by first | omega | (simp; done) | (simp; omega)) hD)) ?_
      rintro _ w ⟨v_at45, v_bt45, N_at45, N_bt45, rfl, hO_at45, hO_bt45, hC⟩
      replace hH := HS.call0 hH hC
      clear hC
      intro a hA
      refine p0 hA 5 63 rfl (fun w => (q_move rfl)) fun a hA => ?_
      refine p0 hA 6 127 rfl (fun w => (q_extract rfl rfl)) fun a hA => ?_
      refine p0 hA 7 255 rfl (fun w => (q_extract rfl rfl)) fun a hA => ?_
      refine a1 hA 8 511 rfl (lo_allocA hH ti64) ?_
      clear hH; rintro _ w ⟨b_t11, rfl, hH⟩
      replace hS := hH.pick [4, 5, 6, 7, 8, 9] (Hs' := [_, _, _, _, _, _]) rfl
      refine ⟨fun _ _ => hS, ?_⟩
      intro a hA
      refine a0n hA 9 1023 rfl (lo_storeAm hH ti64 rfl rfl (by first | rfl | exact ordC_length hDn) (by first | rfl | exact ordC_length hDn) (ordC_one (Own.one hO_at45) (Own.one hO_bt45))) ?_
      clear hH; rintro _ w hH
      refine p0 hA 10 2047 rfl (fun w => (q_assign rfl)) fun a hA => ?_
      refine a_end (by kernel_rfl) ?_ _
      refine hK8 _ _ ?_
      clear hK8
      replace hA := hA.s10 12 11 10 9 8 7 6 4 3 2
      refine wp_seq_k fun K9 hK9 => ?_
      refine wp_region_lit ?_
      refine sq hA (q_loadW hH 9 rfl Tryd.underlying24 rfl ti24 rfl (by first | omega | (simp; done) | (simp; omega) | (rw [List.length_map]; assumption) | assumption | rfl | (simp [*]; done) | (simp [*]; omega))) rfl fun a hA => ?_
      refine mv hA fun a hA => ?_
      refine sl hA (lo_call fn40 rfl (refdecw_g (hg.mono0 hH) _ (by first | assumption | (rw [List.length_map]; assumption) | rfl | exact sha_length _ | (simp; done) | (simp [*]; done) | omega) _ _ (hH.rd hr) (by first | omega | (simp; done) | (simp; omega)) hD)) rfl ?_
      rintro _ w ⟨v_at51, v_bt51, N_at51, N_bt51, rfl, hO_at51, hO_bt51, hC⟩ a hA
      replace hH := HS.call0 hH hC
      clear hC
      refine mv hA fun a hA => ?_
      refine sq hA (q_extract rfl rfl) rfl fun a hA => ?_
      refine sq hA (q_extract rfl rfl) rfl fun a hA => ?_
      refine sl hA (lo_allocA hH ti64) rfl ?_
      clear hH; rintro _ w ⟨b_t13, rfl, hH⟩ a hA
      refine s0 hA (lo_storeAm hH ti64 rfl rfl (by first | rfl | exact ordC_length hDn) (by first | rfl | exact ordC_length hDn) (ordC_one (Own.one hO_at51) (Own.one hO_bt51))) ?_
      clear hH; rintro _ w hH
      refine asg hA fun a hA => ?_
      refine wpList_nil ?_
      refine hK9 _ _ ?_
      clear hK9
      replace hA := hA.s12 14 13 12 11 10 9 8 7 6 4 3 2
      refine wp_seq_k fun K10 hK10 => ?_
      refine wp_seq_k fun K11 hK11 => ?_
      refine wp_region_lit ?_
      refine mv hA fun a hA => ?_
      refine mv hA fun a hA => ?_
      refine sq hA (q_neqI rfl rfl) rfl fun a hA => ?_
      replace hA := hA.decF (by exact fun h => h rfl)
      refine mv hA fun a hA => ?_
      refine gq hA rfl rfl (q_move rfl) rfl fun a hA => ?_
      refine gq hA rfl rfl (q_move rfl) rfl fun a hA => ?_
      refine gl hA rfl rfl (lo_call fn16 rfl (same_any _ _ _ _ (Own.rd0 hO_t31 hH 8 rfl) (Own.rd0 hO_t37 hH 7 rfl) (by first | omega | (simp; done) | (simp; omega)) (by first | omega | (simp; done) | (simp; omega)))) rfl ?_
      rintro _ w ⟨rfl, hC⟩ a hA
      replace hH := HS.call0 hH hC
      clear hC
      replace hA := hA.decT (by rfl)
      refine gq hA rfl rfl (q_not rfl) rfl fun a hA => ?_
      refine sq hA (q_pick_f rfl rfl) rfl fun a hA => ?_
      refine mv hA fun a hA => ?_
      refine gq hA rfl rfl (q_move rfl) rfl fun a hA => ?_
      refine gq hA rfl rfl (q_move rfl) rfl fun a hA => ?_
      refine gq hA rfl rfl (q_neqI rfl rfl) rfl fun a hA => ?_
      replace hA := hA.decF (by exact fun h => h rfl)
      refine sq hA (q_pick_f rfl rfl) rfl fun a hA => ?_
      refine mv hA fun a hA => ?_
      refine gq hA rfl rfl (q_loadW hH 3 rfl Tryd.underlying64 rfl ti64 rfl (by first | rfl | exact ordC_length hDn)) rfl fun a hA => ?_
      refine gq hA rfl rfl (q_loadW hH 0 rfl Tryd.underlying64 rfl ti64 rfl (by first | rfl | exact ordC_length hDn)) rfl fun a hA => ?_
      refine gl hA rfl rfl (lo_call fn41 rfl (same22_any _ _ _ _ _ _ _ (Own.rd0 hO_at45 hH 4 rfl) (Own.rd0 hO_bt45 hH 5 rfl) (by first | omega | (simp; done) | (simp; omega)) (by first | omega | (simp; done) | (simp; omega)) _ (by first | assumption | (rw [List.length_map]; assumption) | rfl | exact sha_length _ | (simp; done) | (simp [*]; done) | omega) _ _ _ _ _ _ _ (Own.rd0 hO_at51 hH 1 rfl) (Own.rd0 hO_bt51 hH 2 rfl) (by first | omega | (simp; done) | (simp; omega)) (by first | omega | (simp; done) | (simp; omega)) _ (by first | assumption | (rw [List.length_map]; assumption) | rfl | exact sha_length _ | (simp; done) | (simp [*]; done) | omega))) rfl ?_
      rintro _ w ⟨rfl, hC⟩ a hA
      replace hH := HS.call0 hH hC
      clear hC
      replace hA := hA.decT (by exact ⟨rfl, rfl, rfl, rfl, rfl, rfl⟩)
      refine gq hA rfl rfl (q_not rfl) rfl fun a hA => ?_
      refine sq hA (q_pick_f rfl rfl) rfl fun a hA => ?_
      refine wpList_nil ?_
      refine hK11 _ _ ?_
      clear hK11
      replace hA := hA.s9 73 12 11 8 7 6 4 3 2
      refine cond_f hA rfl ?_
      refine wp_skip ?_
      refine hK10 _ _ ?_
      clear hK10
      replace hA := hA.s8 12 11 8 7 6 4 3 2
      refine wp_seq_k fun K12 hK12 => ?_
      refine wp_seq_k fun K13 hK13 => ?_
      refine wp_region_lit ?_
      refine mv hA fun a hA => ?_
      refine sq hA (q_eqlI (n := 0) rfl rfl) rfl fun a hA => ?_
      refine hA.spl (fun hs75 hA => ?_) (fun hs75 hA => ?_)
      ·skip
       have hM : MayO jj aa ii T Pl := encO_2 (key := key) (n := nn) (by rw [← hE]; omega)
       have hbk := decO_back (key := key) (n := nn) hM hnn
       rw [← hE] at hbk
       obtain ⟨⟨y1, y2⟩, ⟨y3, y4⟩, ⟨y5, y6⟩, y7, y8⟩ := id hM
       refine wpList_nil ?_
       refine hK13 _ _ ?_
       clear hK13
       replace hA := hA.s8 75 12 11 7 6 4 3 2
       refine cond_t hA rfl ?_
       refine wp_seq_k fun K14 hK14 => ?_
       refine wp_region_lit ?_
       refine sq hA (q_loadW hH 12 rfl Tryd.underlying24 rfl ti24 rfl (by first | omega | (simp; done) | (simp; omega) | (rw [List.length_map]; assumption) | assumption | rfl | (simp [*]; done) | (simp [*]; omega))) rfl fun a hA => ?_
       refine mv hA fun a hA => ?_
       refine sl hA (lo_call fn39 rfl (decw_g (hg.mono0 hH) _ (by first | assumption | (rw [List.length_map]; assumption) | rfl | exact sha_length _ | (simp; done) | (simp [*]; done) | omega) _ _ (Own.rd0 hO_t31 hH 8 rfl) (by first | omega | (simp; done) | (simp; omega)) (D := ((jj.toNat, aa.toNat, ii.toNat, T, Pl, nn), 0)) hbk.symm)) rfl ?_
       rintro _ w ⟨v_at79, v_bt79, N_at79, N_bt79, rfl, hO_at79, hO_bt79, hC⟩ a hA
       replace hH := HS.call0 hH hC
       clear hC
       refine mv hA fun a hA => ?_
       refine sq hA (q_extract rfl rfl) rfl fun a hA => ?_
       refine sq hA (q_extract rfl rfl) rfl fun a hA => ?_
       refine sl hA (lo_allocA hH ti64) rfl ?_
       clear hH; rintro _ w ⟨b_t15, rfl, hH⟩ a hA
       refine s0 hA (lo_storeAm hH ti64 rfl rfl (by first | rfl | exact ordC_length hnn) (by first | rfl | exact ordC_length hnn) (ordC_one (Own.one hO_at79) (Own.one hO_bt79))) ?_
       clear hH; rintro _ w hH
       refine asg hA fun a hA => ?_
       refine wpList_nil ?_
       refine hK14 _ _ ?_
       clear hK14
       replace hA := hA.s8 16 15 12 11 6 4 3 2
       refine wp_seq_k fun K15 hK15 => ?_
       refine wp_region_lit ?_
       refine mv hA fun a hA => ?_
       refine sq hA (q_neqI (n := 0) rfl rfl) rfl fun a hA => ?_
       replace hA := hA.decF (by exact fun h => h rfl)
       refine mv hA fun a hA => ?_
       refine gq hA rfl rfl (q_loadW hH 0 rfl Tryd.underlying64 rfl ti64 rfl (by first | rfl | exact ordC_length hnn)) rfl fun a hA => ?_
       refine gq hA rfl rfl (q_loadW hH 14 rfl Tryd.underlying64 rfl ti64 rfl (by first | rfl | exact ordC_length hnn)) rfl fun a hA => ?_
       refine gl hA rfl rfl (lo_call fn41 rfl (same22_any _ _ _ _ _ _ _ (Own.rd0 hO_at79 hH 1 rfl) (Own.rd0 hO_bt79 hH 2 rfl) (by first | omega | (simp; done) | (simp; omega)) (by first | omega | (simp; done) | (simp; omega)) _ (by first | assumption | (rw [List.length_map]; assumption) | rfl | exact sha_length _ | (simp; done) | (simp [*]; done) | omega) _ _ _ _ _ _ _ (hH.rd htv) (hH.rd hpv) (by first | omega | (simp; done) | (simp; omega)) (by first | omega | (simp; done) | (simp; omega)) _ (by first | assumption | (rw [List.length_map]; assumption) | rfl | exact sha_length _ | (simp; done) | (simp [*]; done) | omega))) rfl ?_
       rintro _ w ⟨rfl, hC⟩ a hA
       replace hH := HS.call0 hH hC
       clear hC
       replace hA := hA.decT (by exact ⟨Int.toNat_of_nonneg y1, Int.toNat_of_nonneg y3, Int.toNat_of_nonneg y5, rfl, rfl, rfl⟩)
       refine gq hA rfl rfl (q_not rfl) rfl fun a hA => ?_
       refine sq hA (q_pick_f rfl rfl) rfl fun a hA => ?_
       refine wpList_nil ?_
       refine hK15 _ _ ?_
       clear hK15
       replace hA := hA.s7 89 12 11 6 4 3 2
       refine cond_f hA rfl ?_
       refine wp_skip ?_
       refine hK12 _ _ ?_
       clear hK12
       replace hA := hA.s6 12 11 6 4 3 2
       refine wp_seq_k fun K16 hK16 => ?_
       refine wp_seq_k fun K17 hK17 => ?_
       refine wp_region_lit ?_
       refine mv hA fun a hA => ?_
       refine sq hA (q_eqlI (n := 0) rfl rfl) rfl fun a hA => ?_
       refine hA.spl (fun hs91 hA => ?_) (fun hs91 hA => ?_)
       ·skip
        have hdd := decO_det hD (by omega)
        refine wpList_nil ?_
        refine hK17 _ _ ?_
        clear hK17
        replace hA := hA.s6 91 11 6 4 3 2
        refine cond_t hA rfl ?_
        refine wp_seq_k fun K18 hK18 => ?_
        refine wp_region_lit ?_
        refine sq hA (q_loadW hH 15 rfl Tryd.underlying24 rfl ti24 rfl (by first | omega | (simp; done) | (simp; omega) | (rw [List.length_map]; assumption) | assumption | rfl | (simp [*]; done) | (simp [*]; omega))) rfl fun a hA => ?_
        refine sq hA (q_loadW hH 6 rfl Tryd.underlying64 rfl ti64 rfl (by first | rfl | exact ordC_length hDn)) rfl fun a hA => ?_
        refine sl hA (lo_call fn36 rfl (encw_g (hg.mono0 hH) _ (by first | assumption | (rw [List.length_map]; assumption) | rfl | exact sha_length _ | (simp; done) | (simp [*]; done) | omega) _ _ _ _ _ _ _ (Own.rd0 hO_at45 hH 7 rfl) (Own.rd0 hO_bt45 hH 8 rfl) (by first | omega | (simp; done) | (simp; omega)) (by first | omega | (simp; done) | (simp; omega)) _ (by first | assumption | (rw [List.length_map]; assumption) | rfl | exact sha_length _ | (simp; done) | (simp [*]; done) | omega) hdd.symm)) rfl ?_
        rintro _ w ⟨v_t95, N_t95, rfl, hO_t95, hC⟩ a hA
        replace hH := HS.call0 hH hC
        clear hC
        refine mv hA fun a hA => ?_
        refine sq hA (q_extract rfl rfl) rfl fun a hA => ?_
        refine sq hA (q_extract rfl rfl) rfl fun a hA => ?_
        refine asg hA fun a hA => ?_
        refine asg hA fun a hA => ?_
        refine wpList_nil ?_
        refine hK18 _ _ ?_
        clear hK18
        replace hA := hA.s5 18 17 6 4 2
        refine wp_seq_k fun K19 hK19 => ?_
        refine wp_region_lit ?_
        refine mv hA fun a hA => ?_
        refine sq hA (q_neqI (n := 0) rfl rfl) rfl fun a hA => ?_
        replace hA := hA.decF (by exact fun h => h rfl)
        refine mv hA fun a hA => ?_
        refine gq hA rfl rfl (q_move rfl) rfl fun a hA => ?_
        refine gq hA rfl rfl (q_move rfl) rfl fun a hA => ?_
        refine gl hA rfl rfl (lo_call fn16 rfl (same_any _ _ _ _ (Own.rd0 hO_t95 hH 0 rfl) (hH.rd hr) (by first | omega | (simp; done) | (simp; omega)) (by first | omega | (simp; done) | (simp; omega)))) rfl ?_
        rintro _ w ⟨rfl, hC⟩ a hA
        replace hH := HS.call0 hH hC
        clear hC
        replace hA := hA.decT (by rfl)
        refine gq hA rfl rfl (q_not rfl) rfl fun a hA => ?_
        refine sq hA (q_pick_f rfl rfl) rfl fun a hA => ?_
        refine wpList_nil ?_
        refine hK19 _ _ ?_
        clear hK19
        replace hA := hA.s3 105 6 4
        refine cond_f hA rfl ?_
        refine wp_skip ?_
        refine hK16 _ _ ?_
        clear hK16
        replace hA := hA.s2 6 4
        refine wp_seq_k fun K20 hK20 => ?_
        refine any_go mixed (fun _ => true) hH ?_
        clear hH; intro w hH
        have hS := hH
        refine any_l 13 ?_
        refine p0 hA 1 2 rfl (fun w => (q_fld 4 Tryd.underlying64 rfl rfl ti22 rfl)) fun a hA => ?_
        refine r0 hA 2 6 rfl hS (fun w hH => (q_loadB hH 15 rfl (List.mem_singleton.2 rfl) Tryd.underlying22 rfl rfl rfl)) fun a hA => ?_
        refine p0 hA 5 38 rfl (fun w => (q_fld 4 Tryd.underlying64 rfl rfl ti22 rfl)) fun a hA => ?_
        refine r0 hA 6 102 rfl hS (fun w hH => (q_loadB hH 15 rfl (List.mem_singleton.2 rfl) Tryd.underlying22 rfl rfl rfl)) fun a hA => ?_
        refine a1 hA 0 103 rfl (lo_bs (f := B8) (e := 5) ([]) hH rfl rfl (fun w => by kernel_rfl)) ?_
        clear hH; rintro v_t106 w ⟨N_t106, hO_t106, hH⟩
        replace hS := hH.pick [1, 2, 3, 4, 5, 6, 7, 8, 9, 10, 11, 12, 13, 14, 15, 16, 17] (Hs' := [_, _, _, _, _, _, _, _, _, _, _, _, _, _, _, _, _]) rfl
        refine ⟨fun _ _ => hS, ?_⟩
        intro a hA
        refine a1 hA 3 111 rfl (lo_appm hH Tryd.underlying22 Tryd.underlying22 (.inl rfl) ti5 rfl rfl rfl hO_t106 (Rd.src (hH.rd hpv)) (one_B8 _) (by first | omega | (simp; done) | (simp; omega)) (by first | omega | (simp; done) | (simp; omega))) ?_
        clear hH; rintro v_t109 w ⟨N_t109, hO_t109, hH⟩
        replace hS := hH.pick [1, 2, 3, 4, 5, 6, 7, 8, 9, 10, 11, 12, 13, 14, 15, 16, 17] (Hs' := [_, _, _, _, _, _, _, _, _, _, _, _, _, _, _, _, _]) rfl
        refine ⟨fun _ _ => hS, ?_⟩
        intro a hA
        refine a1 hA 4 127 rfl (lo_call fn42 rfl (right22_any (hg.mono0 hH) _ _ (Own.rd0 hO_t109 hH 0 rfl) (by first | omega | (simp; done) | (simp; omega)))) ?_
        rintro _ w ⟨v_t110, N_t110, rfl, hO_t110, hC⟩
        replace hH := HS.call0 hH hC
        clear hC
        replace hS := hH.pick [2, 3, 4, 5, 6, 7, 8, 9, 10, 11, 12, 13, 14, 15, 16, 17, 18] (Hs' := [_, _, _, _, _, _, _, _, _, _, _, _, _, _, _, _, _]) rfl
        refine ⟨fun _ _ => hS, ?_⟩
        intro a hA
        refine a1 hA 7 255 rfl (lo_call fn43 rfl (refright22_any (hg.mono0 hH) _ _ (hH.rd hpv) (by first | omega | (simp; done) | (simp; omega)))) ?_
        rintro _ w ⟨v_t113, N_t113, rfl, hO_t113, hC⟩
        replace hH := HS.call0 hH hC
        clear hC
        replace hS := hH.pick [3, 4, 5, 6, 7, 8, 9, 10, 11, 12, 13, 14, 15, 16, 17, 18, 19] (Hs' := [_, _, _, _, _, _, _, _, _, _, _, _, _, _, _, _, _]) rfl
        refine ⟨fun _ _ => hS, ?_⟩
        intro a hA
        refine a1 hA 8 511 rfl (lo_call fn16 rfl (same_any _ _ _ _ (Own.rd0 hO_t110 hH 1 rfl) (Own.rd0 hO_t113 hH 0 rfl) (by first | omega | (simp; done) | (simp; omega)) (by first | omega | (simp; done) | (simp; omega)))) ?_
        rintro _ w ⟨rfl, hC⟩
        replace hH := HS.call0 hH hC
        clear hC
        replace hS := hH.pick [3, 4, 5, 6, 7, 8, 9, 10, 11, 12, 13, 14, 15, 16, 17, 18, 19] (Hs' := [_, _, _, _, _, _, _, _, _, _, _, _, _, _, _, _, _]) rfl
        refine ⟨fun _ _ => hS, ?_⟩
        intro a hA
        replace hA := hA.decT (by first | rfl | omega | assumption | (simp; done) | (simp [*]; done))
        refine p0 hA 9 1023 rfl (fun w => (q_move rfl)) fun a hA => ?_
        refine g1 hA 10 2047 rfl rfl rfl (lo_call fn35 rfl (awake22_any (hg.mono0 hH))) ?_
        rintro _ w ⟨rfl, hC⟩
        replace hH := HS.call0 hH hC
        clear hC
        replace hS := hH.pick [3, 4, 5, 6, 7, 8, 9, 10, 11, 12, 13, 14, 15, 16, 17, 18, 19] (Hs' := [_, _, _, _, _, _, _, _, _, _, _, _, _, _, _, _, _]) rfl
        refine ⟨fun _ _ => hS, ?_⟩
        intro a hA
        refine p0 hA 11 4095 rfl (fun w => (q_pick_t rfl rfl)) fun a hA => ?_
        refine p0 hA 12 8191 rfl (fun w => (q_assign rfl)) fun a hA => ?_
        refine a_end (by kernel_rfl) ?_ _
        refine hK20 _ _ ?_
        clear hK20
        replace hA := hA.s1 6
        refine wp_ret ?_
        refine post_ret hA (res_1 rfl hA rfl) ?_
        replace hH := hH.pick [] (Hs' := []) rfl
        exact ⟨_, rfl, rfl, hH⟩
       ·skip
        refine wpList_nil ?_
        refine hK17 _ _ ?_
        clear hK17
        replace hA := hA.s6 91 11 6 4 3 2
        refine cond_f hA rfl ?_
        refine wp_skip ?_
        refine hK16 _ _ ?_
        clear hK16
        replace hA := hA.s2 6 4
        refine wp_seq_k fun K21 hK21 => ?_
        refine any_go mixed (fun _ => true) hH ?_
        clear hH; intro w hH
        have hS := hH
        refine any_l 13 ?_
        refine p0 hA 1 2 rfl (fun w => (q_fld 4 Tryd.underlying64 rfl rfl ti22 rfl)) fun a hA => ?_
        refine r0 hA 2 6 rfl hS (fun w hH => (q_loadB hH 14 rfl (List.mem_singleton.2 rfl) Tryd.underlying22 rfl rfl rfl)) fun a hA => ?_
        refine p0 hA 5 38 rfl (fun w => (q_fld 4 Tryd.underlying64 rfl rfl ti22 rfl)) fun a hA => ?_
        refine r0 hA 6 102 rfl hS (fun w hH => (q_loadB hH 14 rfl (List.mem_singleton.2 rfl) Tryd.underlying22 rfl rfl rfl)) fun a hA => ?_
        refine a1 hA 0 103 rfl (lo_bs (f := B8) (e := 5) ([]) hH rfl rfl (fun w => by kernel_rfl)) ?_
        clear hH; rintro v_t106 w ⟨N_t106, hO_t106, hH⟩
        replace hS := hH.pick [1, 2, 3, 4, 5, 6, 7, 8, 9, 10, 11, 12, 13, 14, 15, 16] (Hs' := [_, _, _, _, _, _, _, _, _, _, _, _, _, _, _, _]) rfl
        refine ⟨fun _ _ => hS, ?_⟩
        intro a hA
        refine a1 hA 3 111 rfl (lo_appm hH Tryd.underlying22 Tryd.underlying22 (.inl rfl) ti5 rfl rfl rfl hO_t106 (Rd.src (hH.rd hpv)) (one_B8 _) (by first | omega | (simp; done) | (simp; omega)) (by first | omega | (simp; done) | (simp; omega))) ?_
        clear hH; rintro v_t109 w ⟨N_t109, hO_t109, hH⟩
        replace hS := hH.pick [1, 2, 3, 4, 5, 6, 7, 8, 9, 10, 11, 12, 13, 14, 15, 16] (Hs' := [_, _, _, _, _, _, _, _, _, _, _, _, _, _, _, _]) rfl
        refine ⟨fun _ _ => hS, ?_⟩
        intro a hA
        refine a1 hA 4 127 rfl (lo_call fn42 rfl (right22_any (hg.mono0 hH) _ _ (Own.rd0 hO_t109 hH 0 rfl) (by first | omega | (simp; done) | (simp; omega)))) ?_
        rintro _ w ⟨v_t110, N_t110, rfl, hO_t110, hC⟩
        replace hH := HS.call0 hH hC
        clear hC
        replace hS := hH.pick [2, 3, 4, 5, 6, 7, 8, 9, 10, 11, 12, 13, 14, 15, 16, 17] (Hs' := [_, _, _, _, _, _, _, _, _, _, _, _, _, _, _, _]) rfl
        refine ⟨fun _ _ => hS, ?_⟩
        intro a hA
        refine a1 hA 7 255 rfl (lo_call fn43 rfl (refright22_any (hg.mono0 hH) _ _ (hH.rd hpv) (by first | omega | (simp; done) | (simp; omega)))) ?_
        rintro _ w ⟨v_t113, N_t113, rfl, hO_t113, hC⟩
        replace hH := HS.call0 hH hC
        clear hC
        replace hS := hH.pick [3, 4, 5, 6, 7, 8, 9, 10, 11, 12, 13, 14, 15, 16, 17, 18] (Hs' := [_, _, _, _, _, _, _, _, _, _, _, _, _, _, _, _]) rfl
        refine ⟨fun _ _ => hS, ?_⟩
        intro a hA
        refine a1 hA 8 511 rfl (lo_call fn16 rfl (same_any _ _ _ _ (Own.rd0 hO_t110 hH 1 rfl) (Own.rd0 hO_t113 hH 0 rfl) (by first | omega | (simp; done) | (simp; omega)) (by first | omega | (simp; done) | (simp; omega)))) ?_
        rintro _ w ⟨rfl, hC⟩
        replace hH := HS.call0 hH hC
        clear hC
        replace hS := hH.pick [3, 4, 5, 6, 7, 8, 9, 10, 11, 12, 13, 14, 15, 16, 17, 18] (Hs' := [_, _, _, _, _, _, _, _, _, _, _, _, _, _, _, _]) rfl
        refine ⟨fun _ _ => hS, ?_⟩
        intro a hA
        replace hA := hA.decT (by first | rfl | omega | assumption | (simp; done) | (simp [*]; done))
        refine p0 hA 9 1023 rfl (fun w => (q_move rfl)) fun a hA => ?_
        refine g1 hA 10 2047 rfl rfl rfl (lo_call fn35 rfl (awake22_any (hg.mono0 hH))) ?_
        rintro _ w ⟨rfl, hC⟩
        replace hH := HS.call0 hH hC
        clear hC
        replace hS := hH.pick [3, 4, 5, 6, 7, 8, 9, 10, 11, 12, 13, 14, 15, 16, 17, 18] (Hs' := [_, _, _, _, _, _, _, _, _, _, _, _, _, _, _, _]) rfl
        refine ⟨fun _ _ => hS, ?_⟩
        intro a hA
        refine p0 hA 11 4095 rfl (fun w => (q_pick_t rfl rfl)) fun a hA => ?_
        refine p0 hA 12 8191 rfl (fun w => (q_assign rfl)) fun a hA => ?_
        refine a_end (by kernel_rfl) ?_ _
        refine hK21 _ _ ?_
        clear hK21
        replace hA := hA.s1 6
        refine wp_ret ?_
        refine post_ret hA (res_1 rfl hA rfl) ?_
        replace hH := hH.pick [] (Hs' := []) rfl
        exact ⟨_, rfl, rfl, hH⟩
      ·skip
       refine wpList_nil ?_
       refine hK13 _ _ ?_
       clear hK13
       replace hA := hA.s8 75 12 11 7 6 4 3 2
       refine cond_f hA rfl ?_
       refine wp_skip ?_
       refine hK12 _ _ ?_
       clear hK12
       replace hA := hA.s6 12 11 6 4 3 2
       refine wp_seq_k fun K22 hK22 => ?_
       refine wp_seq_k fun K23 hK23 => ?_
       refine wp_region_lit ?_
       refine mv hA fun a hA => ?_
       refine sq hA (q_eqlI (n := 0) rfl rfl) rfl fun a hA => ?_
       refine hA.spl (fun hs91 hA => ?_) (fun hs91 hA => ?_)
       ·skip
        have hdd := decO_det hD (by omega)
        refine wpList_nil ?_
        refine hK23 _ _ ?_
        clear hK23
        replace hA := hA.s6 91 11 6 4 3 2
        refine cond_t hA rfl ?_
        refine wp_seq_k fun K24 hK24 => ?_
        refine wp_region_lit ?_
        refine sq hA (q_loadW hH 12 rfl Tryd.underlying24 rfl ti24 rfl (by first | omega | (simp; done) | (simp; omega) | (rw [List.length_map]; assumption) | assumption | rfl | (simp [*]; done) | (simp [*]; omega))) rfl fun a hA => ?_
        refine sq hA (q_loadW hH 3 rfl Tryd.underlying64 rfl ti64 rfl (by first | rfl | exact ordC_length hDn)) rfl fun a hA => ?_
        refine sl hA (lo_call fn36 rfl (encw_g (hg.mono0 hH) _ (by first | assumption | (rw [List.length_map]; assumption) | rfl | exact sha_length _ | (simp; done) | (simp [*]; done) | omega) _ _ _ _ _ _ _ (Own.rd0 hO_at45 hH 4 rfl) (Own.rd0 hO_bt45 hH 5 rfl) (by first | omega | (simp; done) | (simp; omega)) (by first | omega | (simp; done) | (simp; omega)) _ (by first | assumption | (rw [List.length_map]; assumption) | rfl | exact sha_length _ | (simp; done) | (simp [*]; done) | omega) hdd.symm)) rfl ?_
        rintro _ w ⟨v_t95, N_t95, rfl, hO_t95, hC⟩ a hA
        replace hH := HS.call0 hH hC
        clear hC
        refine mv hA fun a hA => ?_
        refine sq hA (q_extract rfl rfl) rfl fun a hA => ?_
        refine sq hA (q_extract rfl rfl) rfl fun a hA => ?_
        refine asg hA fun a hA => ?_
        refine asg hA fun a hA => ?_
        refine wpList_nil ?_
        refine hK24 _ _ ?_
        clear hK24
        replace hA := hA.s5 18 17 6 4 2
        refine wp_seq_k fun K25 hK25 => ?_
        refine wp_region_lit ?_
        refine mv hA fun a hA => ?_
        refine sq hA (q_neqI (n := 0) rfl rfl) rfl fun a hA => ?_
        replace hA := hA.decF (by exact fun h => h rfl)
        refine mv hA fun a hA => ?_
        refine gq hA rfl rfl (q_move rfl) rfl fun a hA => ?_
        refine gq hA rfl rfl (q_move rfl) rfl fun a hA => ?_
        refine gl hA rfl rfl (lo_call fn16 rfl (same_any _ _ _ _ (Own.rd0 hO_t95 hH 0 rfl) (hH.rd hr) (by first | omega | (simp; done) | (simp; omega)) (by first | omega | (simp; done) | (simp; omega)))) rfl ?_
        rintro _ w ⟨rfl, hC⟩ a hA
        replace hH := HS.call0 hH hC
        clear hC
        replace hA := hA.decT (by rfl)
        refine gq hA rfl rfl (q_not rfl) rfl fun a hA => ?_
        refine sq hA (q_pick_f rfl rfl) rfl fun a hA => ?_
        refine wpList_nil ?_
        refine hK25 _ _ ?_
        clear hK25
        replace hA := hA.s3 105 6 4
        refine cond_f hA rfl ?_
        refine wp_skip ?_
        refine hK22 _ _ ?_
        clear hK22
        replace hA := hA.s2 6 4
        refine wp_seq_k fun K26 hK26 => ?_
        refine any_go mixed (fun _ => true) hH ?_
        clear hH; intro w hH
        have hS := hH
        refine any_l 13 ?_
        refine p0 hA 1 2 rfl (fun w => (q_fld 4 Tryd.underlying64 rfl rfl ti22 rfl)) fun a hA => ?_
        refine r0 hA 2 6 rfl hS (fun w hH => (q_loadB hH 12 rfl (List.mem_singleton.2 rfl) Tryd.underlying22 rfl rfl rfl)) fun a hA => ?_
        refine p0 hA 5 38 rfl (fun w => (q_fld 4 Tryd.underlying64 rfl rfl ti22 rfl)) fun a hA => ?_
        refine r0 hA 6 102 rfl hS (fun w hH => (q_loadB hH 12 rfl (List.mem_singleton.2 rfl) Tryd.underlying22 rfl rfl rfl)) fun a hA => ?_
        refine a1 hA 0 103 rfl (lo_bs (f := B8) (e := 5) ([]) hH rfl rfl (fun w => by kernel_rfl)) ?_
        clear hH; rintro v_t106 w ⟨N_t106, hO_t106, hH⟩
        replace hS := hH.pick [1, 2, 3, 4, 5, 6, 7, 8, 9, 10, 11, 12, 13, 14] (Hs' := [_, _, _, _, _, _, _, _, _, _, _, _, _, _]) rfl
        refine ⟨fun _ _ => hS, ?_⟩
        intro a hA
        refine a1 hA 3 111 rfl (lo_appm hH Tryd.underlying22 Tryd.underlying22 (.inl rfl) ti5 rfl rfl rfl hO_t106 (Rd.src (hH.rd hpv)) (one_B8 _) (by first | omega | (simp; done) | (simp; omega)) (by first | omega | (simp; done) | (simp; omega))) ?_
        clear hH; rintro v_t109 w ⟨N_t109, hO_t109, hH⟩
        replace hS := hH.pick [1, 2, 3, 4, 5, 6, 7, 8, 9, 10, 11, 12, 13, 14] (Hs' := [_, _, _, _, _, _, _, _, _, _, _, _, _, _]) rfl
        refine ⟨fun _ _ => hS, ?_⟩
        intro a hA
        refine a1 hA 4 127 rfl (lo_call fn42 rfl (right22_any (hg.mono0 hH) _ _ (Own.rd0 hO_t109 hH 0 rfl) (by first | omega | (simp; done) | (simp; omega)))) ?_
        rintro _ w ⟨v_t110, N_t110, rfl, hO_t110, hC⟩
        replace hH := HS.call0 hH hC
        clear hC
        replace hS := hH.pick [2, 3, 4, 5, 6, 7, 8, 9, 10, 11, 12, 13, 14, 15] (Hs' := [_, _, _, _, _, _, _, _, _, _, _, _, _, _]) rfl
        refine ⟨fun _ _ => hS, ?_⟩
        intro a hA
        refine a1 hA 7 255 rfl (lo_call fn43 rfl (refright22_any (hg.mono0 hH) _ _ (hH.rd hpv) (by first | omega | (simp; done) | (simp; omega)))) ?_
        rintro _ w ⟨v_t113, N_t113, rfl, hO_t113, hC⟩
        replace hH := HS.call0 hH hC
        clear hC
        replace hS := hH.pick [3, 4, 5, 6, 7, 8, 9, 10, 11, 12, 13, 14, 15, 16] (Hs' := [_, _, _, _, _, _, _, _, _, _, _, _, _, _]) rfl
        refine ⟨fun _ _ => hS, ?_⟩
        intro a hA
        refine a1 hA 8 511 rfl (lo_call fn16 rfl (same_any _ _ _ _ (Own.rd0 hO_t110 hH 1 rfl) (Own.rd0 hO_t113 hH 0 rfl) (by first | omega | (simp; done) | (simp; omega)) (by first | omega | (simp; done) | (simp; omega)))) ?_
        rintro _ w ⟨rfl, hC⟩
        replace hH := HS.call0 hH hC
        clear hC
        replace hS := hH.pick [3, 4, 5, 6, 7, 8, 9, 10, 11, 12, 13, 14, 15, 16] (Hs' := [_, _, _, _, _, _, _, _, _, _, _, _, _, _]) rfl
        refine ⟨fun _ _ => hS, ?_⟩
        intro a hA
        replace hA := hA.decT (by first | rfl | omega | assumption | (simp; done) | (simp [*]; done))
        refine p0 hA 9 1023 rfl (fun w => (q_move rfl)) fun a hA => ?_
        refine g1 hA 10 2047 rfl rfl rfl (lo_call fn35 rfl (awake22_any (hg.mono0 hH))) ?_
        rintro _ w ⟨rfl, hC⟩
        replace hH := HS.call0 hH hC
        clear hC
        replace hS := hH.pick [3, 4, 5, 6, 7, 8, 9, 10, 11, 12, 13, 14, 15, 16] (Hs' := [_, _, _, _, _, _, _, _, _, _, _, _, _, _]) rfl
        refine ⟨fun _ _ => hS, ?_⟩
        intro a hA
        refine p0 hA 11 4095 rfl (fun w => (q_pick_t rfl rfl)) fun a hA => ?_
        refine p0 hA 12 8191 rfl (fun w => (q_assign rfl)) fun a hA => ?_
        refine a_end (by kernel_rfl) ?_ _
        refine hK26 _ _ ?_
        clear hK26
        replace hA := hA.s1 6
        refine wp_ret ?_
        refine post_ret hA (res_1 rfl hA rfl) ?_
        replace hH := hH.pick [] (Hs' := []) rfl
        exact ⟨_, rfl, rfl, hH⟩
       ·skip
        refine wpList_nil ?_
        refine hK23 _ _ ?_
        clear hK23
        replace hA := hA.s6 91 11 6 4 3 2
        refine cond_f hA rfl ?_
        refine wp_skip ?_
        refine hK22 _ _ ?_
        clear hK22
        replace hA := hA.s2 6 4
        refine wp_seq_k fun K27 hK27 => ?_
        refine any_go mixed (fun _ => true) hH ?_
        clear hH; intro w hH
        have hS := hH
        refine any_l 13 ?_
        refine p0 hA 1 2 rfl (fun w => (q_fld 4 Tryd.underlying64 rfl rfl ti22 rfl)) fun a hA => ?_
        refine r0 hA 2 6 rfl hS (fun w hH => (q_loadB hH 11 rfl (List.mem_singleton.2 rfl) Tryd.underlying22 rfl rfl rfl)) fun a hA => ?_
        refine p0 hA 5 38 rfl (fun w => (q_fld 4 Tryd.underlying64 rfl rfl ti22 rfl)) fun a hA => ?_
        refine r0 hA 6 102 rfl hS (fun w hH => (q_loadB hH 11 rfl (List.mem_singleton.2 rfl) Tryd.underlying22 rfl rfl rfl)) fun a hA => ?_
        refine a1 hA 0 103 rfl (lo_bs (f := B8) (e := 5) ([]) hH rfl rfl (fun w => by kernel_rfl)) ?_
        clear hH; rintro v_t106 w ⟨N_t106, hO_t106, hH⟩
        replace hS := hH.pick [1, 2, 3, 4, 5, 6, 7, 8, 9, 10, 11, 12, 13] (Hs' := [_, _, _, _, _, _, _, _, _, _, _, _, _]) rfl
        refine ⟨fun _ _ => hS, ?_⟩
        intro a hA
        refine a1 hA 3 111 rfl (lo_appm hH Tryd.underlying22 Tryd.underlying22 (.inl rfl) ti5 rfl rfl rfl hO_t106 (Rd.src (hH.rd hpv)) (one_B8 _) (by first | omega | (simp; done) | (simp; omega)) (by first | omega | (simp; done) | (simp; omega))) ?_
        clear hH; rintro v_t109 w ⟨N_t109, hO_t109, hH⟩
        replace hS := hH.pick [1, 2, 3, 4, 5, 6, 7, 8, 9, 10, 11, 12, 13] (Hs' := [_, _, _, _, _, _, _, _, _, _, _, _, _]) rfl
        refine ⟨fun _ _ => hS, ?_⟩
        intro a hA
        refine a1 hA 4 127 rfl (lo_call fn42 rfl (right22_any (hg.mono0 hH) _ _ (Own.rd0 hO_t109 hH 0 rfl) (by first | omega | (simp; done) | (simp; omega)))) ?_
        rintro _ w ⟨v_t110, N_t110, rfl, hO_t110, hC⟩
        replace hH := HS.call0 hH hC
        clear hC
        replace hS := hH.pick [2, 3, 4, 5, 6, 7, 8, 9, 10, 11, 12, 13, 14] (Hs' := [_, _, _, _, _, _, _, _, _, _, _, _, _]) rfl
        refine ⟨fun _ _ => hS, ?_⟩
        intro a hA
        refine a1 hA 7 255 rfl (lo_call fn43 rfl (refright22_any (hg.mono0 hH) _ _ (hH.rd hpv) (by first | omega | (simp; done) | (simp; omega)))) ?_
        rintro _ w ⟨v_t113, N_t113, rfl, hO_t113, hC⟩
        replace hH := HS.call0 hH hC
        clear hC
        replace hS := hH.pick [3, 4, 5, 6, 7, 8, 9, 10, 11, 12, 13, 14, 15] (Hs' := [_, _, _, _, _, _, _, _, _, _, _, _, _]) rfl
        refine ⟨fun _ _ => hS, ?_⟩
        intro a hA
        refine a1 hA 8 511 rfl (lo_call fn16 rfl (same_any _ _ _ _ (Own.rd0 hO_t110 hH 1 rfl) (Own.rd0 hO_t113 hH 0 rfl) (by first | omega | (simp; done) | (simp; omega)) (by first | omega | (simp; done) | (simp; omega)))) ?_
        rintro _ w ⟨rfl, hC⟩
        replace hH := HS.call0 hH hC
        clear hC
        replace hS := hH.pick [3, 4, 5, 6, 7, 8, 9, 10, 11, 12, 13, 14, 15] (Hs' := [_, _, _, _, _, _, _, _, _, _, _, _, _]) rfl
        refine ⟨fun _ _ => hS, ?_⟩
        intro a hA
        replace hA := hA.decT (by first | rfl | omega | assumption | (simp; done) | (simp [*]; done))
        refine p0 hA 9 1023 rfl (fun w => (q_move rfl)) fun a hA => ?_
        refine g1 hA 10 2047 rfl rfl rfl (lo_call fn35 rfl (awake22_any (hg.mono0 hH))) ?_
        rintro _ w ⟨rfl, hC⟩
        replace hH := HS.call0 hH hC
        clear hC
        replace hS := hH.pick [3, 4, 5, 6, 7, 8, 9, 10, 11, 12, 13, 14, 15] (Hs' := [_, _, _, _, _, _, _, _, _, _, _, _, _]) rfl
        refine ⟨fun _ _ => hS, ?_⟩
        intro a hA
        refine p0 hA 11 4095 rfl (fun w => (q_pick_t rfl rfl)) fun a hA => ?_
        refine p0 hA 12 8191 rfl (fun w => (q_assign rfl)) fun a hA => ?_
        refine a_end (by kernel_rfl) ?_ _
        refine hK27 _ _ ?_
        clear hK27
        replace hA := hA.s1 6
        refine wp_ret ?_
        refine post_ret hA (res_1 rfl hA rfl) ?_
        replace hH := hH.pick [] (Hs' := []) rfl
        exact ⟨_, rfl, rfl, hH⟩
     ·skip
      refine o1 hA 8 271 rfl (lo_allocA hH ti64) ?_
      clear hH; rintro _ w ⟨b_t11, rfl, hH⟩
      replace hS := hH.pick [2, 3, 4, 5, 6, 7] (Hs' := [_, _, _, _, _, _]) rfl
      refine ⟨fun _ _ => hS, ?_⟩
      intro a hA
      refine a1n hA 4 287 rfl (lo_call fn39 rfl (decw_g (hg.mono0 hH) _ (by first | assumption | (rw [List.length_map]; assumption) | rfl | exact sha_length _ | (simp; done) | (simp [*]; done) | omega) _ _ (Own.rd0 hO_t44 hH 1 rfl) (by first | omega | (simp; done) | (simp; omega)) hD)) ?_
      rintro _ w ⟨v_at45, v_bt45, N_at45, N_bt45, rfl, hO_at45, hO_bt45, hC⟩
      replace hH := HS.call0 hH hC
      clear hC
      intro a hA
      refine p0 hA 5 319 rfl (fun w => (q_move rfl)) fun a hA => ?_
      refine p0 hA 6 383 rfl (fun w => (q_extract rfl rfl)) fun a hA => ?_
      refine p0 hA 7 511 rfl (fun w => (q_extract rfl rfl)) fun a hA => ?_
      replace hH := hH.pick [2, 0, 1, 3, 4, 5, 6, 7, 8, 9] (Hs' := [_, _, _, _, _, _, _, _, _, _]) rfl
      refine a0n hA 9 1023 rfl (lo_storeAm hH ti64 rfl rfl (by first | rfl | exact ordC_length hDn) (by first | rfl | exact ordC_length hDn) (ordC_one (Own.one hO_at45) (Own.one hO_bt45))) ?_
      clear hH; rintro _ w hH
      refine p0 hA 10 2047 rfl (fun w => (q_assign rfl)) fun a hA => ?_
      refine a_end (by kernel_rfl) ?_ _
      refine hK8 _ _ ?_
      clear hK8
      replace hA := hA.s10 12 11 10 9 8 7 6 4 3 2
      refine wp_seq_k fun K28 hK28 => ?_
      refine wp_region_lit ?_
      refine sq hA (q_loadW hH 9 rfl Tryd.underlying24 rfl ti24 rfl (by first | omega | (simp; done) | (simp; omega) | (rw [List.length_map]; assumption) | assumption | rfl | (simp [*]; done) | (simp [*]; omega))) rfl fun a hA => ?_
      refine mv hA fun a hA => ?_
      refine sl hA (lo_call fn40 rfl (refdecw_g (hg.mono0 hH) _ (by first | assumption | (rw [List.length_map]; assumption) | rfl | exact sha_length _ | (simp; done) | (simp [*]; done) | omega) _ _ (hH.rd hr) (by first | omega | (simp; done) | (simp; omega)) hD)) rfl ?_
      rintro _ w ⟨v_at51, v_bt51, N_at51, N_bt51, rfl, hO_at51, hO_bt51, hC⟩ a hA
      replace hH := HS.call0 hH hC
      clear hC
      refine mv hA fun a hA => ?_
      refine sq hA (q_extract rfl rfl) rfl fun a hA => ?_
      refine sq hA (q_extract rfl rfl) rfl fun a hA => ?_
      refine sl hA (lo_allocA hH ti64) rfl ?_
      clear hH; rintro _ w ⟨b_t13, rfl, hH⟩ a hA
      refine s0 hA (lo_storeAm hH ti64 rfl rfl (by first | rfl | exact ordC_length hDn) (by first | rfl | exact ordC_length hDn) (ordC_one (Own.one hO_at51) (Own.one hO_bt51))) ?_
      clear hH; rintro _ w hH
      refine asg hA fun a hA => ?_
      refine wpList_nil ?_
      refine hK28 _ _ ?_
      clear hK28
      replace hA := hA.s12 14 13 12 11 10 9 8 7 6 4 3 2
      refine wp_seq_k fun K29 hK29 => ?_
      refine wp_seq_k fun K30 hK30 => ?_
      refine wp_region_lit ?_
      refine mv hA fun a hA => ?_
      refine mv hA fun a hA => ?_
      refine sq hA (q_neqI rfl rfl) rfl fun a hA => ?_
      replace hA := hA.decF (by exact fun h => h rfl)
      refine mv hA fun a hA => ?_
      refine gq hA rfl rfl (q_move rfl) rfl fun a hA => ?_
      refine gq hA rfl rfl (q_move rfl) rfl fun a hA => ?_
      refine gl hA rfl rfl (lo_call fn16 rfl (same_any _ _ _ _ (Own.rd0 hO_t31 hH 8 rfl) (Own.rd0 hO_t37 hH 7 rfl) (by first | omega | (simp; done) | (simp; omega)) (by first | omega | (simp; done) | (simp; omega)))) rfl ?_
      rintro _ w ⟨rfl, hC⟩ a hA
      replace hH := HS.call0 hH hC
      clear hC
      replace hA := hA.decT (by rfl)
      refine gq hA rfl rfl (q_not rfl) rfl fun a hA => ?_
      refine sq hA (q_pick_f rfl rfl) rfl fun a hA => ?_
      refine mv hA fun a hA => ?_
      refine gq hA rfl rfl (q_move rfl) rfl fun a hA => ?_
      refine gq hA rfl rfl (q_move rfl) rfl fun a hA => ?_
      refine gq hA rfl rfl (q_neqI rfl rfl) rfl fun a hA => ?_
      replace hA := hA.decF (by exact fun h => h rfl)
      refine sq hA (q_pick_f rfl rfl) rfl fun a hA => ?_
      refine mv hA fun a hA => ?_
      refine gq hA rfl rfl (q_loadW hH 3 rfl Tryd.underlying64 rfl ti64 rfl (by first | rfl | exact ordC_length hDn)) rfl fun a hA => ?_
      refine gq hA rfl rfl (q_loadW hH 0 rfl Tryd.underlying64 rfl ti64 rfl (by first | rfl | exact ordC_length hDn)) rfl fun a hA => ?_
      refine gl hA rfl rfl (lo_call fn41 rfl (same22_any _ _ _ _ _ _ _ (Own.rd0 hO_at45 hH 4 rfl) (Own.rd0 hO_bt45 hH 5 rfl) (by first | omega | (simp; done) | (simp; omega)) (by first | omega | (simp; done) | (simp; omega)) _ (by first | assumption | (rw [List.length_map]; assumption) | rfl | exact sha_length _ | (simp; done) | (simp [*]; done) | omega) _ _ _ _ _ _ _ (Own.rd0 hO_at51 hH 1 rfl) (Own.rd0 hO_bt51 hH 2 rfl) (by first | omega | (simp; done) | (simp; omega)) (by first | omega | (simp; done) | (simp; omega)) _ (by first | assumption | (rw [List.length_map]; assumption) | rfl | exact sha_length _ | (simp; done) | (simp [*]; done) | omega))) rfl ?_
      rintro _ w ⟨rfl, hC⟩ a hA
      replace hH := HS.call0 hH hC
      clear hC
      replace hA := hA.decT (by exact ⟨rfl, rfl, rfl, rfl, rfl, rfl⟩)
      refine gq hA rfl rfl (q_not rfl) rfl fun a hA => ?_
      refine sq hA (q_pick_f rfl rfl) rfl fun a hA => ?_
      refine wpList_nil ?_
      refine hK30 _ _ ?_
      clear hK30
      replace hA := hA.s9 73 12 11 8 7 6 4 3 2
      refine cond_f hA rfl ?_
      refine wp_skip ?_
      refine hK29 _ _ ?_
      clear hK29
      replace hA := hA.s8 12 11 8 7 6 4 3 2
      refine wp_seq_k fun K31 hK31 => ?_
      refine wp_seq_k fun K32 hK32 => ?_
      refine wp_region_lit ?_
      refine mv hA fun a hA => ?_
      refine sq hA (q_eqlI (n := 0) rfl rfl) rfl fun a hA => ?_
      refine hA.spl (fun hs75 hA => ?_) (fun hs75 hA => ?_)
      ·skip
       have hM : MayO jj aa ii T Pl := encO_2 (key := key) (n := nn) (by rw [← hE]; omega)
       have hbk := decO_back (key := key) (n := nn) hM hnn
       rw [← hE] at hbk
       obtain ⟨⟨y1, y2⟩, ⟨y3, y4⟩, ⟨y5, y6⟩, y7, y8⟩ := id hM
       refine wpList_nil ?_
       refine hK32 _ _ ?_
       clear hK32
       replace hA := hA.s8 75 12 11 7 6 4 3 2
       refine cond_t hA rfl ?_
       refine wp_seq_k fun K33 hK33 => ?_
       refine wp_region_lit ?_
       refine sq hA (q_loadW hH 12 rfl Tryd.underlying24 rfl ti24 rfl (by first | omega | (simp; done) | (simp; omega) | (rw [List.length_map]; assumption) | assumption | rfl | (simp [*]; done) | (simp [*]; omega))) rfl fun a hA => ?_
       refine mv hA fun a hA => ?_
       refine sl hA (lo_call fn39 rfl (decw_g (hg.mono0 hH) _ (by first | assumption | (rw [List.length_map]; assumption) | rfl | exact sha_length _ | (simp; done) | (simp [*]; done) | omega) _ _ (Own.rd0 hO_t31 hH 8 rfl) (by first | omega | (simp; done) | (simp; omega)) (D := ((jj.toNat, aa.toNat, ii.toNat, T, Pl, nn), 0)) hbk.symm)) rfl ?_
       rintro _ w ⟨v_at79, v_bt79, N_at79, N_bt79, rfl, hO_at79, hO_bt79, hC⟩ a hA
       replace hH := HS.call0 hH hC
       clear hC
       refine mv hA fun a hA => ?_
       refine sq hA (q_extract rfl rfl) rfl fun a hA => ?_
       refine sq hA (q_extract rfl rfl) rfl fun a hA => ?_
       refine sl hA (lo_allocA hH ti64) rfl ?_
       clear hH; rintro _ w ⟨b_t15, rfl, hH⟩ a hA
       refine s0 hA (lo_storeAm hH ti64 rfl rfl (by first | rfl | exact ordC_length hnn) (by first | rfl | exact ordC_length hnn) (ordC_one (Own.one hO_at79) (Own.one hO_bt79))) ?_
       clear hH; rintro _ w hH
       refine asg hA fun a hA => ?_
       refine wpList_nil ?_
       refine hK33 _ _ ?_
       clear hK33
       replace hA := hA.s8 16 15 12 11 6 4 3 2
       refine wp_seq_k fun K34 hK34 => ?_
       refine wp_region_lit ?_
       refine mv hA fun a hA => ?_
       refine sq hA (q_neqI (n := 0) rfl rfl) rfl fun a hA => ?_
       replace hA := hA.decF (by exact fun h => h rfl)
       refine mv hA fun a hA => ?_
       refine gq hA rfl rfl (q_loadW hH 0 rfl Tryd.underlying64 rfl ti64 rfl (by first | rfl | exact ordC_length hnn)) rfl fun a hA => ?_
       refine gq hA rfl rfl (q_loadW hH 14 rfl Tryd.underlying64 rfl ti64 rfl (by first | rfl | exact ordC_length hnn)) rfl fun a hA => ?_
       refine gl hA rfl rfl (lo_call fn41 rfl (same22_any _ _ _ _ _ _ _ (Own.rd0 hO_at79 hH 1 rfl) (Own.rd0 hO_bt79 hH 2 rfl) (by first | omega | (simp; done) | (simp; omega)) (by first | omega | (simp; done) | (simp; omega)) _ (by first | assumption | (rw [List.length_map]; assumption) | rfl | exact sha_length _ | (simp; done) | (simp [*]; done) | omega) _ _ _ _ _ _ _ (hH.rd htv) (hH.rd hpv) (by first | omega | (simp; done) | (simp; omega)) (by first | omega | (simp; done) | (simp; omega)) _ (by first | assumption | (rw [List.length_map]; assumption) | rfl | exact sha_length _ | (simp; done) | (simp [*]; done) | omega))) rfl ?_
       rintro _ w ⟨rfl, hC⟩ a hA
       replace hH := HS.call0 hH hC
       clear hC
       replace hA := hA.decT (by exact ⟨Int.toNat_of_nonneg y1, Int.toNat_of_nonneg y3, Int.toNat_of_nonneg y5, rfl, rfl, rfl⟩)
       refine gq hA rfl rfl (q_not rfl) rfl fun a hA => ?_
       refine sq hA (q_pick_f rfl rfl) rfl fun a hA => ?_
       refine wpList_nil ?_
       refine hK34 _ _ ?_
       clear hK34
       replace hA := hA.s7 89 12 11 6 4 3 2
       refine cond_f hA rfl ?_
       refine wp_skip ?_
       refine hK31 _ _ ?_
       clear hK31
       replace hA := hA.s6 12 11 6 4 3 2
       refine wp_seq_k fun K35 hK35 => ?_
       refine wp_seq_k fun K36 hK36 => ?_
       refine wp_region_lit ?_
       refine mv hA fun a hA => ?_
       refine sq hA (q_eqlI (n := 0) rfl rfl) rfl fun a hA => ?_
       refine hA.spl (fun hs91 hA => ?_) (fun hs91 hA => ?_)
       ·skip
        have hdd := decO_det hD (by omega)
        refine wpList_nil ?_
        refine hK36 _ _ ?_
        clear hK36
        replace hA := hA.s6 91 11 6 4 3 2
        refine cond_t hA rfl ?_
        refine wp_seq_k fun K37 hK37 => ?_
        refine wp_region_lit ?_
        refine sq hA (q_loadW hH 15 rfl Tryd.underlying24 rfl ti24 rfl (by first | omega | (simp; done) | (simp; omega) | (rw [List.length_map]; assumption) | assumption | rfl | (simp [*]; done) | (simp [*]; omega))) rfl fun a hA => ?_
        refine sq hA (q_loadW hH 6 rfl Tryd.underlying64 rfl ti64 rfl (by first | rfl | exact ordC_length hDn)) rfl fun a hA => ?_
        refine sl hA (lo_call fn36 rfl (encw_g (hg.mono0 hH) _ (by first | assumption | (rw [List.length_map]; assumption) | rfl | exact sha_length _ | (simp; done) | (simp [*]; done) | omega) _ _ _ _ _ _ _ (Own.rd0 hO_at45 hH 7 rfl) (Own.rd0 hO_bt45 hH 8 rfl) (by first | omega | (simp; done) | (simp; omega)) (by first | omega | (simp; done) | (simp; omega)) _ (by first | assumption | (rw [List.length_map]; assumption) | rfl | exact sha_length _ | (simp; done) | (simp [*]; done) | omega) hdd.symm)) rfl ?_
        rintro _ w ⟨v_t95, N_t95, rfl, hO_t95, hC⟩ a hA
        replace hH := HS.call0 hH hC
        clear hC
        refine mv hA fun a hA => ?_
        refine sq hA (q_extract rfl rfl) rfl fun a hA => ?_
        refine sq hA (q_extract rfl rfl) rfl fun a hA => ?_
        refine asg hA fun a hA => ?_
        refine asg hA fun a hA => ?_
        refine wpList_nil ?_
        refine hK37 _ _ ?_
        clear hK37
        replace hA := hA.s5 18 17 6 4 2
        refine wp_seq_k fun K38 hK38 => ?_
        refine wp_region_lit ?_
        refine mv hA fun a hA => ?_
        refine sq hA (q_neqI (n := 0) rfl rfl) rfl fun a hA => ?_
        replace hA := hA.decF (by exact fun h => h rfl)
        refine mv hA fun a hA => ?_
        refine gq hA rfl rfl (q_move rfl) rfl fun a hA => ?_
        refine gq hA rfl rfl (q_move rfl) rfl fun a hA => ?_
        refine gl hA rfl rfl (lo_call fn16 rfl (same_any _ _ _ _ (Own.rd0 hO_t95 hH 0 rfl) (hH.rd hr) (by first | omega | (simp; done) | (simp; omega)) (by first | omega | (simp; done) | (simp; omega)))) rfl ?_
        rintro _ w ⟨rfl, hC⟩ a hA
        replace hH := HS.call0 hH hC
        clear hC
        replace hA := hA.decT (by rfl)
        refine gq hA rfl rfl (q_not rfl) rfl fun a hA => ?_
        refine sq hA (q_pick_f rfl rfl) rfl fun a hA => ?_
        refine wpList_nil ?_
        refine hK38 _ _ ?_
        clear hK38
        replace hA := hA.s3 105 6 4
        refine cond_f hA rfl ?_
        refine wp_skip ?_
        refine hK35 _ _ ?_
        clear hK35
        replace hA := hA.s2 6 4
        refine wp_seq_k fun K39 hK39 => ?_
        refine any_go mixed (fun _ => true) hH ?_
        clear hH; intro w hH
        have hS := hH
        refine any_l 13 ?_
        refine p0 hA 1 2 rfl (fun w => (q_fld 4 Tryd.underlying64 rfl rfl ti22 rfl)) fun a hA => ?_
        refine r0 hA 2 6 rfl hS (fun w hH => (q_loadB hH 15 rfl (List.mem_singleton.2 rfl) Tryd.underlying22 rfl rfl rfl)) fun a hA => ?_
        refine p0 hA 5 38 rfl (fun w => (q_fld 4 Tryd.underlying64 rfl rfl ti22 rfl)) fun a hA => ?_
        refine r0 hA 6 102 rfl hS (fun w hH => (q_loadB hH 15 rfl (List.mem_singleton.2 rfl) Tryd.underlying22 rfl rfl rfl)) fun a hA => ?_
        refine a1 hA 0 103 rfl (lo_bs (f := B8) (e := 5) ([]) hH rfl rfl (fun w => by kernel_rfl)) ?_
        clear hH; rintro v_t106 w ⟨N_t106, hO_t106, hH⟩
        replace hS := hH.pick [1, 2, 3, 4, 5, 6, 7, 8, 9, 10, 11, 12, 13, 14, 15, 16, 17] (Hs' := [_, _, _, _, _, _, _, _, _, _, _, _, _, _, _, _, _]) rfl
        refine ⟨fun _ _ => hS, ?_⟩
        intro a hA
        refine a1 hA 3 111 rfl (lo_appm hH Tryd.underlying22 Tryd.underlying22 (.inl rfl) ti5 rfl rfl rfl hO_t106 (Rd.src (hH.rd hpv)) (one_B8 _) (by first | omega | (simp; done) | (simp; omega)) (by first | omega | (simp; done) | (simp; omega))) ?_
        clear hH; rintro v_t109 w ⟨N_t109, hO_t109, hH⟩
        replace hS := hH.pick [1, 2, 3, 4, 5, 6, 7, 8, 9, 10, 11, 12, 13, 14, 15, 16, 17] (Hs' := [_, _, _, _, _, _, _, _, _, _, _, _, _, _, _, _, _]) rfl
        refine ⟨fun _ _ => hS, ?_⟩
        intro a hA
        refine a1 hA 4 127 rfl (lo_call fn42 rfl (right22_any (hg.mono0 hH) _ _ (Own.rd0 hO_t109 hH 0 rfl) (by first | omega | (simp; done) | (simp; omega)))) ?_
        rintro _ w ⟨v_t110, N_t110, rfl, hO_t110, hC⟩
        replace hH := HS.call0 hH hC
        clear hC
        replace hS := hH.pick [2, 3, 4, 5, 6, 7, 8, 9, 10, 11, 12, 13, 14, 15, 16, 17, 18] (Hs' := [_, _, _, _, _, _, _, _, _, _, _, _, _, _, _, _, _]) rfl
        refine ⟨fun _ _ => hS, ?_⟩
        intro a hA
        refine a1 hA 7 255 rfl (lo_call fn43 rfl (refright22_any (hg.mono0 hH) _ _ (hH.rd hpv) (by first | omega | (simp; done) | (simp; omega)))) ?_
        rintro _ w ⟨v_t113, N_t113, rfl, hO_t113, hC⟩
        replace hH := HS.call0 hH hC
        clear hC
        replace hS := hH.pick [3, 4, 5, 6, 7, 8, 9, 10, 11, 12, 13, 14, 15, 16, 17, 18, 19] (Hs' := [_, _, _, _, _, _, _, _, _, _, _, _, _, _, _, _, _]) rfl
        refine ⟨fun _ _ => hS, ?_⟩
        intro a hA
        refine a1 hA 8 511 rfl (lo_call fn16 rfl (same_any _ _ _ _ (Own.rd0 hO_t110 hH 1 rfl) (Own.rd0 hO_t113 hH 0 rfl) (by first | omega | (simp; done) | (simp; omega)) (by first | omega | (simp; done) | (simp; omega)))) ?_
        rintro _ w ⟨rfl, hC⟩
        replace hH := HS.call0 hH hC
        clear hC
        replace hS := hH.pick [3, 4, 5, 6, 7, 8, 9, 10, 11, 12, 13, 14, 15, 16, 17, 18, 19] (Hs' := [_, _, _, _, _, _, _, _, _, _, _, _, _, _, _, _, _]) rfl
        refine ⟨fun _ _ => hS, ?_⟩
        intro a hA
        replace hA := hA.decT (by first | rfl | omega | assumption | (simp; done) | (simp [*]; done))
        refine p0 hA 9 1023 rfl (fun w => (q_move rfl)) fun a hA => ?_
        refine g1 hA 10 2047 rfl rfl rfl (lo_call fn35 rfl (awake22_any (hg.mono0 hH))) ?_
        rintro _ w ⟨rfl, hC⟩
        replace hH := HS.call0 hH hC
        clear hC
        replace hS := hH.pick [3, 4, 5, 6, 7, 8, 9, 10, 11, 12, 13, 14, 15, 16, 17, 18, 19] (Hs' := [_, _, _, _, _, _, _, _, _, _, _, _, _, _, _, _, _]) rfl
        refine ⟨fun _ _ => hS, ?_⟩
        intro a hA
        refine p0 hA 11 4095 rfl (fun w => (q_pick_t rfl rfl)) fun a hA => ?_
        refine p0 hA 12 8191 rfl (fun w => (q_assign rfl)) fun a hA => ?_
        refine a_end (by kernel_rfl) ?_ _
        refine hK39 _ _ ?_
        clear hK39
        replace hA := hA.s1 6
        refine wp_ret ?_
        refine post_ret hA (res_1 rfl hA rfl) ?_
        replace hH := hH.pick [] (Hs' := []) rfl
        exact ⟨_, rfl, rfl, hH⟩
       ·skip
        refine wpList_nil ?_
        refine hK36 _ _ ?_
        clear hK36
        replace hA := hA.s6 91 11 6 4 3 2
        refine cond_f hA rfl ?_
        refine wp_skip ?_
        refine hK35 _ _ ?_
        clear hK35
        replace hA := hA.s2 6 4
        refine wp_seq_k fun K40 hK40 => ?_
        refine any_go mixed (fun _ => true) hH ?_
        clear hH; intro w hH
        have hS := hH
        refine any_l 13 ?_
        refine p0 hA 1 2 rfl (fun w => (q_fld 4 Tryd.underlying64 rfl rfl ti22 rfl)) fun a hA => ?_
        refine r0 hA 2 6 rfl hS (fun w hH => (q_loadB hH 14 rfl (List.mem_singleton.2 rfl) Tryd.underlying22 rfl rfl rfl)) fun a hA => ?_
        refine p0 hA 5 38 rfl (fun w => (q_fld 4 Tryd.underlying64 rfl rfl ti22 rfl)) fun a hA => ?_
        refine r0 hA 6 102 rfl hS (fun w hH => (q_loadB hH 14 rfl (List.mem_singleton.2 rfl) Tryd.underlying22 rfl rfl rfl)) fun a hA => ?_
        refine a1 hA 0 103 rfl (lo_bs (f := B8) (e := 5) ([]) hH rfl rfl (fun w => by kernel_rfl)) ?_
        clear hH; rintro v_t106 w ⟨N_t106, hO_t106, hH⟩
        replace hS := hH.pick [1, 2, 3, 4, 5, 6, 7, 8, 9, 10, 11, 12, 13, 14, 15, 16] (Hs' := [_, _, _, _, _, _, _, _, _, _, _, _, _, _, _, _]) rfl
        refine ⟨fun _ _ => hS, ?_⟩
        intro a hA
        refine a1 hA 3 111 rfl (lo_appm hH Tryd.underlying22 Tryd.underlying22 (.inl rfl) ti5 rfl rfl rfl hO_t106 (Rd.src (hH.rd hpv)) (one_B8 _) (by first | omega | (simp; done) | (simp; omega)) (by first | omega | (simp; done) | (simp; omega))) ?_
        clear hH; rintro v_t109 w ⟨N_t109, hO_t109, hH⟩
        replace hS := hH.pick [1, 2, 3, 4, 5, 6, 7, 8, 9, 10, 11, 12, 13, 14, 15, 16] (Hs' := [_, _, _, _, _, _, _, _, _, _, _, _, _, _, _, _]) rfl
        refine ⟨fun _ _ => hS, ?_⟩
        intro a hA
        refine a1 hA 4 127 rfl (lo_call fn42 rfl (right22_any (hg.mono0 hH) _ _ (Own.rd0 hO_t109 hH 0 rfl) (by first | omega | (simp; done) | (simp; omega)))) ?_
        rintro _ w ⟨v_t110, N_t110, rfl, hO_t110, hC⟩
        replace hH := HS.call0 hH hC
        clear hC
        replace hS := hH.pick [2, 3, 4, 5, 6, 7, 8, 9, 10, 11, 12, 13, 14, 15, 16, 17] (Hs' := [_, _, _, _, _, _, _, _, _, _, _, _, _, _, _, _]) rfl
        refine ⟨fun _ _ => hS, ?_⟩
        intro a hA
        refine a1 hA 7 255 rfl (lo_call fn43 rfl (refright22_any (hg.mono0 hH) _ _ (hH.rd hpv) (by first | omega | (simp; done) | (simp; omega)))) ?_
        rintro _ w ⟨v_t113, N_t113, rfl, hO_t113, hC⟩
        replace hH := HS.call0 hH hC
        clear hC
        replace hS := hH.pick [3, 4, 5, 6, 7, 8, 9, 10, 11, 12, 13, 14, 15, 16, 17, 18] (Hs' := [_, _, _, _, _, _, _, _, _, _, _, _, _, _, _, _]) rfl
        refine ⟨fun _ _ => hS, ?_⟩
        intro a hA
        refine a1 hA 8 511 rfl (lo_call fn16 rfl (same_any _ _ _ _ (Own.rd0 hO_t110 hH 1 rfl) (Own.rd0 hO_t113 hH 0 rfl) (by first | omega | (simp; done) | (simp; omega)) (by first | omega | (simp; done) | (simp; omega)))) ?_
        rintro _ w ⟨rfl, hC⟩
        replace hH := HS.call0 hH hC
        clear hC
        replace hS := hH.pick [3, 4, 5, 6, 7, 8, 9, 10, 11, 12, 13, 14, 15, 16, 17, 18] (Hs' := [_, _, _, _, _, _, _, _, _, _, _, _, _, _, _, _]) rfl
        refine ⟨fun _ _ => hS, ?_⟩
        intro a hA
        replace hA := hA.decT (by first | rfl | omega | assumption | (simp; done) | (simp [*]; done))
        refine p0 hA 9 1023 rfl (fun w => (q_move rfl)) fun a hA => ?_
        refine g1 hA 10 2047 rfl rfl rfl (lo_call fn35 rfl (awake22_any (hg.mono0 hH))) ?_
        rintro _ w ⟨rfl, hC⟩
        replace hH := HS.call0 hH hC
        clear hC
        replace hS := hH.pick [3, 4, 5, 6, 7, 8, 9, 10, 11, 12, 13, 14, 15, 16, 17, 18] (Hs' := [_, _, _, _, _, _, _, _, _, _, _, _, _, _, _, _]) rfl
        refine ⟨fun _ _ => hS, ?_⟩
        intro a hA
        refine p0 hA 11 4095 rfl (fun w => (q_pick_t rfl rfl)) fun a hA => ?_
        refine p0 hA 12 8191 rfl (fun w => (q_assign rfl)) fun a hA => ?_
        refine a_end (by kernel_rfl) ?_ _
        refine hK40 _ _ ?_
        clear hK40
        replace hA := hA.s1 6
        refine wp_ret ?_
        refine post_ret hA (res_1 rfl hA rfl) ?_
        replace hH := hH.pick [] (Hs' := []) rfl
        exact ⟨_, rfl, rfl, hH⟩
      ·skip
       refine wpList_nil ?_
       refine hK32 _ _ ?_
       clear hK32
       replace hA := hA.s8 75 12 11 7 6 4 3 2
       refine cond_f hA rfl ?_
       refine wp_skip ?_
       refine hK31 _ _ ?_
       clear hK31
       replace hA := hA.s6 12 11 6 4 3 2
       refine wp_seq_k fun K41 hK41 => ?_
       refine wp_seq_k fun K42 hK42 => ?_
       refine wp_region_lit ?_
       refine mv hA fun a hA => ?_
       refine sq hA (q_eqlI (n := 0) rfl rfl) rfl fun a hA => ?_
       refine hA.spl (fun hs91 hA => ?_) (fun hs91 hA => ?_)
       ·skip
        have hdd := decO_det hD (by omega)
        refine wpList_nil ?_
        refine hK42 _ _ ?_
        clear hK42
        replace hA := hA.s6 91 11 6 4 3 2
        refine cond_t hA rfl ?_
        refine wp_seq_k fun K43 hK43 => ?_
        refine wp_region_lit ?_
        refine sq hA (q_loadW hH 12 rfl Tryd.underlying24 rfl ti24 rfl (by first | omega | (simp; done) | (simp; omega) | (rw [List.length_map]; assumption) | assumption | rfl | (simp [*]; done) | (simp [*]; omega))) rfl fun a hA => ?_
        refine sq hA (q_loadW hH 3 rfl Tryd.underlying64 rfl ti64 rfl (by first | rfl | exact ordC_length hDn)) rfl fun a hA => ?_
        refine sl hA (lo_call fn36 rfl (encw_g (hg.mono0 hH) _ (by first | assumption | (rw [List.length_map]; assumption) | rfl | exact sha_length _ | (simp; done) | (simp [*]; done) | omega) _ _ _ _ _ _ _ (Own.rd0 hO_at45 hH 4 rfl) (Own.rd0 hO_bt45 hH 5 rfl) (by first | omega | (simp; done) | (simp; omega)) (by first | omega | (simp; done) | (simp; omega)) _ (by first | assumption | (rw [List.length_map]; assumption) | rfl | exact sha_length _ | (simp; done) | (simp [*]; done) | omega) hdd.symm)) rfl ?_
        rintro _ w ⟨v_t95, N_t95, rfl, hO_t95, hC⟩ a hA
        replace hH := HS.call0 hH hC
        clear hC
        refine mv hA fun a hA => ?_
        refine sq hA (q_extract rfl rfl) rfl fun a hA => ?_
        refine sq hA (q_extract rfl rfl) rfl fun a hA => ?_
        refine asg hA fun a hA => ?_
        refine asg hA fun a hA => ?_
        refine wpList_nil ?_
        refine hK43 _ _ ?_
        clear hK43
        replace hA := hA.s5 18 17 6 4 2
        refine wp_seq_k fun K44 hK44 => ?_
        refine wp_region_lit ?_
        refine mv hA fun a hA => ?_
        refine sq hA (q_neqI (n := 0) rfl rfl) rfl fun a hA => ?_
        replace hA := hA.decF (by exact fun h => h rfl)
        refine mv hA fun a hA => ?_
        refine gq hA rfl rfl (q_move rfl) rfl fun a hA => ?_
        refine gq hA rfl rfl (q_move rfl) rfl fun a hA => ?_
        refine gl hA rfl rfl (lo_call fn16 rfl (same_any _ _ _ _ (Own.rd0 hO_t95 hH 0 rfl) (hH.rd hr) (by first | omega | (simp; done) | (simp; omega)) (by first | omega | (simp; done) | (simp; omega)))) rfl ?_
        rintro _ w ⟨rfl, hC⟩ a hA
        replace hH := HS.call0 hH hC
        clear hC
        replace hA := hA.decT (by rfl)
        refine gq hA rfl rfl (q_not rfl) rfl fun a hA => ?_
        refine sq hA (q_pick_f rfl rfl) rfl fun a hA => ?_
        refine wpList_nil ?_
        refine hK44 _ _ ?_
        clear hK44
        replace hA := hA.s3 105 6 4
        refine cond_f hA rfl ?_
        refine wp_skip ?_
        refine hK41 _ _ ?_
        clear hK41
        replace hA := hA.s2 6 4
        refine wp_seq_k fun K45 hK45 => ?_
        refine any_go mixed (fun _ => true) hH ?_
        clear hH; intro w hH
        have hS := hH
        refine any_l 13 ?_
        refine p0 hA 1 2 rfl (fun w => (q_fld 4 Tryd.underlying64 rfl rfl ti22 rfl)) fun a hA => ?_
        refine r0 hA 2 6 rfl hS (fun w hH => (q_loadB hH 12 rfl (List.mem_singleton.2 rfl) Tryd.underlying22 rfl rfl rfl)) fun a hA => ?_
        refine p0 hA 5 38 rfl (fun w => (q_fld 4 Tryd.underlying64 rfl rfl ti22 rfl)) fun a hA => ?_
        refine r0 hA 6 102 rfl hS (fun w hH => (q_loadB hH 12 rfl (List.mem_singleton.2 rfl) Tryd.underlying22 rfl rfl rfl)) fun a hA => ?_
        refine a1 hA 0 103 rfl (lo_bs (f := B8) (e := 5) ([]) hH rfl rfl (fun w => by kernel_rfl)) ?_
        clear hH; rintro v_t106 w ⟨N_t106, hO_t106, hH⟩
        replace hS := hH.pick [1, 2, 3, 4, 5, 6, 7, 8, 9, 10, 11, 12, 13, 14] (Hs' := [_, _, _, _, _, _, _, _, _, _, _, _, _, _]) rfl
        refine ⟨fun _ _ => hS, ?_⟩
        intro a hA
        refine a1 hA 3 111 rfl (lo_appm hH Tryd.underlying22 Tryd.underlying22 (.inl rfl) ti5 rfl rfl rfl hO_t106 (Rd.src (hH.rd hpv)) (one_B8 _) (by first | omega | (simp; done) | (simp; omega)) (by first | omega | (simp; done) | (simp; omega))) ?_
        clear hH; rintro v_t109 w ⟨N_t109, hO_t109, hH⟩
        replace hS := hH.pick [1, 2, 3, 4, 5, 6, 7, 8, 9, 10, 11, 12, 13, 14] (Hs' := [_, _, _, _, _, _, _, _, _, _, _, _, _, _]) rfl
        refine ⟨fun _ _ => hS, ?_⟩
        intro a hA
        refine a1 hA 4 127 rfl (lo_call fn42 rfl (right22_any (hg.mono0 hH) _ _ (Own.rd0 hO_t109 hH 0 rfl) (by first | omega | (simp; done) | (simp; omega)))) ?_
        rintro _ w ⟨v_t110, N_t110, rfl, hO_t110, hC⟩
        replace hH := HS.call0 hH hC
        clear hC
        replace hS := hH.pick [2, 3, 4, 5, 6, 7, 8, 9, 10, 11, 12, 13, 14, 15] (Hs' := [_, _, _, _, _, _, _, _, _, _, _, _, _, _]) rfl
        refine ⟨fun _ _ => hS, ?_⟩
        intro a hA
        refine a1 hA 7 255 rfl (lo_call fn43 rfl (refright22_any (hg.mono0 hH) _ _ (hH.rd hpv) (by first | omega | (simp; done) | (simp; omega)))) ?_
        rintro _ w ⟨v_t113, N_t113, rfl, hO_t113, hC⟩
        replace hH := HS.call0 hH hC
        clear hC
        replace hS := hH.pick [3, 4, 5, 6, 7, 8, 9, 10, 11, 12, 13, 14, 15, 16] (Hs' := [_, _, _, _, _, _, _, _, _, _, _, _, _, _]) rfl
        refine ⟨fun _ _ => hS, ?_⟩
        intro a hA
        refine a1 hA 8 511 rfl (lo_call fn16 rfl (same_any _ _ _ _ (Own.rd0 hO_t110 hH 1 rfl) (Own.rd0 hO_t113 hH 0 rfl) (by first | omega | (simp; done) | (simp; omega)) (by first | omega | (simp; done) | (simp; omega)))) ?_
        rintro _ w ⟨rfl, hC⟩
        replace hH := HS.call0 hH hC
        clear hC
        replace hS := hH.pick [3, 4, 5, 6, 7, 8, 9, 10, 11, 12, 13, 14, 15, 16] (Hs' := [_, _, _, _, _, _, _, _, _, _, _, _, _, _]) rfl
        refine ⟨fun _ _ => hS, ?_⟩
        intro a hA
        replace hA := hA.decT (by first | rfl | omega | assumption | (simp; done) | (simp [*]; done))
        refine p0 hA 9 1023 rfl (fun w => (q_move rfl)) fun a hA => ?_
        refine g1 hA 10 2047 rfl rfl rfl (lo_call fn35 rfl (awake22_any (hg.mono0 hH))) ?_
        rintro _ w ⟨rfl, hC⟩
        replace hH := HS.call0 hH hC
        clear hC
        replace hS := hH.pick [3, 4, 5, 6, 7, 8, 9, 10, 11, 12, 13, 14, 15, 16] (Hs' := [_, _, _, _, _, _, _, _, _, _, _, _, _, _]) rfl
        refine ⟨fun _ _ => hS, ?_⟩
        intro a hA
        refine p0 hA 11 4095 rfl (fun w => (q_pick_t rfl rfl)) fun a hA => ?_
        refine p0 hA 12 8191 rfl (fun w => (q_assign rfl)) fun a hA => ?_
        refine a_end (by kernel_rfl) ?_ _
        refine hK45 _ _ ?_
        clear hK45
        replace hA := hA.s1 6
        refine wp_ret ?_
        refine post_ret hA (res_1 rfl hA rfl) ?_
        replace hH := hH.pick [] (Hs' := []) rfl
        exact ⟨_, rfl, rfl, hH⟩
       ·skip
        refine wpList_nil ?_
        refine hK42 _ _ ?_
        clear hK42
        replace hA := hA.s6 91 11 6 4 3 2
        refine cond_f hA rfl ?_
        refine wp_skip ?_
        refine hK41 _ _ ?_
        clear hK41
        replace hA := hA.s2 6 4
        refine wp_seq_k fun K46 hK46 => ?_
        refine any_go mixed (fun _ => true) hH ?_
        clear hH; intro w hH
        have hS := hH
        refine any_l 13 ?_
        refine p0 hA 1 2 rfl (fun w => (q_fld 4 Tryd.underlying64 rfl rfl ti22 rfl)) fun a hA => ?_
        refine r0 hA 2 6 rfl hS (fun w hH => (q_loadB hH 11 rfl (List.mem_singleton.2 rfl) Tryd.underlying22 rfl rfl rfl)) fun a hA => ?_
        refine p0 hA 5 38 rfl (fun w => (q_fld 4 Tryd.underlying64 rfl rfl ti22 rfl)) fun a hA => ?_
        refine r0 hA 6 102 rfl hS (fun w hH => (q_loadB hH 11 rfl (List.mem_singleton.2 rfl) Tryd.underlying22 rfl rfl rfl)) fun a hA => ?_
        refine a1 hA 0 103 rfl (lo_bs (f := B8) (e := 5) ([]) hH rfl rfl (fun w => by kernel_rfl)) ?_
        clear hH; rintro v_t106 w ⟨N_t106, hO_t106, hH⟩
        replace hS := hH.pick [1, 2, 3, 4, 5, 6, 7, 8, 9, 10, 11, 12, 13] (Hs' := [_, _, _, _, _, _, _, _, _, _, _, _, _]) rfl
        refine ⟨fun _ _ => hS, ?_⟩
        intro a hA
        refine a1 hA 3 111 rfl (lo_appm hH Tryd.underlying22 Tryd.underlying22 (.inl rfl) ti5 rfl rfl rfl hO_t106 (Rd.src (hH.rd hpv)) (one_B8 _) (by first | omega | (simp; done) | (simp; omega)) (by first | omega | (simp; done) | (simp; omega))) ?_
        clear hH; rintro v_t109 w ⟨N_t109, hO_t109, hH⟩
        replace hS := hH.pick [1, 2, 3, 4, 5, 6, 7, 8, 9, 10, 11, 12, 13] (Hs' := [_, _, _, _, _, _, _, _, _, _, _, _, _]) rfl
        refine ⟨fun _ _ => hS, ?_⟩
        intro a hA
        refine a1 hA 4 127 rfl (lo_call fn42 rfl (right22_any (hg.mono0 hH) _ _ (Own.rd0 hO_t109 hH 0 rfl) (by first | omega | (simp; done) | (simp; omega)))) ?_
        rintro _ w ⟨v_t110, N_t110, rfl, hO_t110, hC⟩
        replace hH := HS.call0 hH hC
        clear hC
        replace hS := hH.pick [2, 3, 4, 5, 6, 7, 8, 9, 10, 11, 12, 13, 14] (Hs' := [_, _, _, _, _, _, _, _, _, _, _, _, _]) rfl
        refine ⟨fun _ _ => hS, ?_⟩
        intro a hA
        refine a1 hA 7 255 rfl (lo_call fn43 rfl (refright22_any (hg.mono0 hH) _ _ (hH.rd hpv) (by first | omega | (simp; done) | (simp; omega)))) ?_
        rintro _ w ⟨v_t113, N_t113, rfl, hO_t113, hC⟩
        replace hH := HS.call0 hH hC
        clear hC
        replace hS := hH.pick [3, 4, 5, 6, 7, 8, 9, 10, 11, 12, 13, 14, 15] (Hs' := [_, _, _, _, _, _, _, _, _, _, _, _, _]) rfl
        refine ⟨fun _ _ => hS, ?_⟩
        intro a hA
        refine a1 hA 8 511 rfl (lo_call fn16 rfl (same_any _ _ _ _ (Own.rd0 hO_t110 hH 1 rfl) (Own.rd0 hO_t113 hH 0 rfl) (by first | omega | (simp; done) | (simp; omega)) (by first | omega | (simp; done) | (simp; omega)))) ?_
        rintro _ w ⟨rfl, hC⟩
        replace hH := HS.call0 hH hC
        clear hC
        replace hS := hH.pick [3, 4, 5, 6, 7, 8, 9, 10, 11, 12, 13, 14, 15] (Hs' := [_, _, _, _, _, _, _, _, _, _, _, _, _]) rfl
        refine ⟨fun _ _ => hS, ?_⟩
        intro a hA
        replace hA := hA.decT (by first | rfl | omega | assumption | (simp; done) | (simp [*]; done))
        refine p0 hA 9 1023 rfl (fun w => (q_move rfl)) fun a hA => ?_
        refine g1 hA 10 2047 rfl rfl rfl (lo_call fn35 rfl (awake22_any (hg.mono0 hH))) ?_
        rintro _ w ⟨rfl, hC⟩
        replace hH := HS.call0 hH hC
        clear hC
        replace hS := hH.pick [3, 4, 5, 6, 7, 8, 9, 10, 11, 12, 13, 14, 15] (Hs' := [_, _, _, _, _, _, _, _, _, _, _, _, _]) rfl
        refine ⟨fun _ _ => hS, ?_⟩
        intro a hA
        refine p0 hA 11 4095 rfl (fun w => (q_pick_t rfl rfl)) fun a hA => ?_
        refine p0 hA 12 8191 rfl (fun w => (q_assign rfl)) fun a hA => ?_
        refine a_end (by kernel_rfl) ?_ _
        refine hK46 _ _ ?_
        clear hK46
        replace hA := hA.s1 6
        refine wp_ret ?_
        refine post_ret hA (res_1 rfl hA rfl) ?_
        replace hH := hH.pick [] (Hs' := []) rfl
        exact ⟨_, rfl, rfl, hH⟩
    ·skip
     refine o1 hA 8 263 rfl (lo_allocA hH ti64) ?_
     clear hH; rintro _ w ⟨b_t11, rfl, hH⟩
     replace hS := hH.pick [2, 3, 4, 5, 6, 7] (Hs' := [_, _, _, _, _, _]) rfl
     refine ⟨fun _ _ => hS, ?_⟩
     intro a hA
     replace hH := hH.pick [1, 0, 2, 3, 4, 5, 6, 7] (Hs' := [_, _, _, _, _, _, _, _]) rfl
     refine a1 hA 3 271 rfl (lo_appm hH Tryd.underlying22 Tryd.underlying22 (.inl rfl) ti5 rfl rfl rfl hO_t42 (Rd.src (hH.rd hr)) (one_B8 _) (by first | omega | (simp; done) | (simp; omega)) (by first | omega | (simp; done) | (simp; omega))) ?_
     clear hH; rintro v_t44 w ⟨N_t44, hO_t44, hH⟩
     replace hS := hH.pick [2, 3, 4, 5, 6, 7] (Hs' := [_, _, _, _, _, _]) rfl
     refine ⟨fun _ _ => hS, ?_⟩
     intro a hA
     refine a1n hA 4 287 rfl (lo_call fn39 rfl (decw_g (hg.mono0 hH) _ (by first | assumption | (rw [List.length_map]; assumption) | rfl | exact sha_length _ | (simp; done) | (simp [*]; done) | omega) _ _ (Own.rd0 hO_t44 hH 0 rfl) (by first | omega | (simp; done) | (simp; omega)) hD)) ?_
     rintro _ w ⟨v_at45, v_bt45, N_at45, N_bt45, rfl, hO_at45, hO_bt45, hC⟩
     replace hH := HS.call0 hH hC
     clear hC
     intro a hA
     refine p0 hA 5 319 rfl (fun w => (q_move rfl)) fun a hA => ?_
     refine p0 hA 6 383 rfl (fun w => (q_extract rfl rfl)) fun a hA => ?_
     refine p0 hA 7 511 rfl (fun w => (q_extract rfl rfl)) fun a hA => ?_
     replace hH := hH.pick [3, 0, 1, 2, 4, 5, 6, 7, 8, 9] (Hs' := [_, _, _, _, _, _, _, _, _, _]) rfl
     refine a0n hA 9 1023 rfl (lo_storeAm hH ti64 rfl rfl (by first | rfl | exact ordC_length hDn) (by first | rfl | exact ordC_length hDn) (ordC_one (Own.one hO_at45) (Own.one hO_bt45))) ?_
     clear hH; rintro _ w hH
     refine p0 hA 10 2047 rfl (fun w => (q_assign rfl)) fun a hA => ?_
     refine a_end (by kernel_rfl) ?_ _
     refine hK8 _ _ ?_
     clear hK8
     replace hA := hA.s10 12 11 10 9 8 7 6 4 3 2
     refine wp_seq_k fun K47 hK47 => ?_
     refine wp_region_lit ?_
     refine sq hA (q_loadW hH 9 rfl Tryd.underlying24 rfl ti24 rfl (by first | omega | (simp; done) | (simp; omega) | (rw [List.length_map]; assumption) | assumption | rfl | (simp [*]; done) | (simp [*]; omega))) rfl fun a hA => ?_
     refine mv hA fun a hA => ?_
     refine sl hA (lo_call fn40 rfl (refdecw_g (hg.mono0 hH) _ (by first | assumption | (rw [List.length_map]; assumption) | rfl | exact sha_length _ | (simp; done) | (simp [*]; done) | omega) _ _ (hH.rd hr) (by first | omega | (simp; done) | (simp; omega)) hD)) rfl ?_
     rintro _ w ⟨v_at51, v_bt51, N_at51, N_bt51, rfl, hO_at51, hO_bt51, hC⟩ a hA
     replace hH := HS.call0 hH hC
     clear hC
     refine mv hA fun a hA => ?_
     refine sq hA (q_extract rfl rfl) rfl fun a hA => ?_
     refine sq hA (q_extract rfl rfl) rfl fun a hA => ?_
     refine sl hA (lo_allocA hH ti64) rfl ?_
     clear hH; rintro _ w ⟨b_t13, rfl, hH⟩ a hA
     refine s0 hA (lo_storeAm hH ti64 rfl rfl (by first | rfl | exact ordC_length hDn) (by first | rfl | exact ordC_length hDn) (ordC_one (Own.one hO_at51) (Own.one hO_bt51))) ?_
     clear hH; rintro _ w hH
     refine asg hA fun a hA => ?_
     refine wpList_nil ?_
     refine hK47 _ _ ?_
     clear hK47
     replace hA := hA.s12 14 13 12 11 10 9 8 7 6 4 3 2
     refine wp_seq_k fun K48 hK48 => ?_
     refine wp_seq_k fun K49 hK49 => ?_
     refine wp_region_lit ?_
     refine mv hA fun a hA => ?_
     refine mv hA fun a hA => ?_
     refine sq hA (q_neqI rfl rfl) rfl fun a hA => ?_
     replace hA := hA.decF (by exact fun h => h rfl)
     refine mv hA fun a hA => ?_
     refine gq hA rfl rfl (q_move rfl) rfl fun a hA => ?_
     refine gq hA rfl rfl (q_move rfl) rfl fun a hA => ?_
     refine gl hA rfl rfl (lo_call fn16 rfl (same_any _ _ _ _ (Own.rd0 hO_t31 hH 8 rfl) (Own.rd0 hO_t37 hH 7 rfl) (by first | omega | (simp; done) | (simp; omega)) (by first | omega | (simp; done) | (simp; omega)))) rfl ?_
     rintro _ w ⟨rfl, hC⟩ a hA
     replace hH := HS.call0 hH hC
     clear hC
     replace hA := hA.decT (by rfl)
     refine gq hA rfl rfl (q_not rfl) rfl fun a hA => ?_
     refine sq hA (q_pick_f rfl rfl) rfl fun a hA => ?_
     refine mv hA fun a hA => ?_
     refine gq hA rfl rfl (q_move rfl) rfl fun a hA => ?_
     refine gq hA rfl rfl (q_move rfl) rfl fun a hA => ?_
     refine gq hA rfl rfl (q_neqI rfl rfl) rfl fun a hA => ?_
     replace hA := hA.decF (by exact fun h => h rfl)
     refine sq hA (q_pick_f rfl rfl) rfl fun a hA => ?_
     refine mv hA fun a hA => ?_
     refine gq hA rfl rfl (q_loadW hH 3 rfl Tryd.underlying64 rfl ti64 rfl (by first | rfl | exact ordC_length hDn)) rfl fun a hA => ?_
     refine gq hA rfl rfl (q_loadW hH 0 rfl Tryd.underlying64 rfl ti64 rfl (by first | rfl | exact ordC_length hDn)) rfl fun a hA => ?_
     refine gl hA rfl rfl (lo_call fn41 rfl (same22_any _ _ _ _ _ _ _ (Own.rd0 hO_at45 hH 4 rfl) (Own.rd0 hO_bt45 hH 5 rfl) (by first | omega | (simp; done) | (simp; omega)) (by first | omega | (simp; done) | (simp; omega)) _ (by first | assumption | (rw [List.length_map]; assumption) | rfl | exact sha_length _ | (simp; done) | (simp [*]; done) | omega) _ _ _ _ _ _ _ (Own.rd0 hO_at51 hH 1 rfl) (Own.rd0 hO_bt51 hH 2 rfl) (by first | omega | (simp; done) | (simp; omega)) (by first | omega | (simp; done) | (simp; omega)) _ (by first | assumption | (rw [List.length_map]; assumption) | rfl | exact sha_length _ | (simp; done) | (simp [*]; done) | omega))) rfl ?_
     rintro _ w ⟨rfl, hC⟩ a hA
     replace hH := HS.call0 hH hC
     clear hC
     replace hA := hA.decT (by exact ⟨rfl, rfl, rfl, rfl, rfl, rfl⟩)
     refine gq hA rfl rfl (q_not rfl) rfl fun a hA => ?_
     refine sq hA (q_pick_f rfl rfl) rfl fun a hA => ?_
     refine wpList_nil ?_
     refine hK49 _ _ ?_
     clear hK49
     replace hA := hA.s9 73 12 11 8 7 6 4 3 2
     refine cond_f hA rfl ?_
     refine wp_skip ?_
     refine hK48 _ _ ?_
     clear hK48
     replace hA := hA.s8 12 11 8 7 6 4 3 2
     refine wp_seq_k fun K50 hK50 => ?_
     refine wp_seq_k fun K51 hK51 => ?_
     refine wp_region_lit ?_
     refine mv hA fun a hA => ?_
     refine sq hA (q_eqlI (n := 0) rfl rfl) rfl fun a hA => ?_
     refine hA.spl (fun hs75 hA => ?_) (fun hs75 hA => ?_)
     ·skip
      have hM : MayO jj aa ii T Pl := encO_2 (key := key) (n := nn) (by rw [← hE]; omega)
      have hbk := decO_back (key := key) (n := nn) hM hnn
      rw [← hE] at hbk
      obtain ⟨⟨y1, y2⟩, ⟨y3, y4⟩, ⟨y5, y6⟩, y7, y8⟩ := id hM
      refine wpList_nil ?_
      refine hK51 _ _ ?_
      clear hK51
      replace hA := hA.s8 75 12 11 7 6 4 3 2
      refine cond_t hA rfl ?_
      refine wp_seq_k fun K52 hK52 => ?_
      refine wp_region_lit ?_
      refine sq hA (q_loadW hH 12 rfl Tryd.underlying24 rfl ti24 rfl (by first | omega | (simp; done) | (simp; omega) | (rw [List.length_map]; assumption) | assumption | rfl | (simp [*]; done) | (simp [*]; omega))) rfl fun a hA => ?_
      refine mv hA fun a hA => ?_
      refine sl hA (lo_call fn39 rfl (decw_g (hg.mono0 hH) _ (by first | assumption | (rw [List.length_map]; assumption) | rfl | exact sha_length _ | (simp; done) | (simp [*]; done) | omega) _ _ (Own.rd0 hO_t31 hH 8 rfl) (by first | omega | (simp; done) | (simp; omega)) (D := ((jj.toNat, aa.toNat, ii.toNat, T, Pl, nn), 0)) hbk.symm)) rfl ?_
      rintro _ w ⟨v_at79, v_bt79, N_at79, N_bt79, rfl, hO_at79, hO_bt79, hC⟩ a hA
      replace hH := HS.call0 hH hC
      clear hC
      refine mv hA fun a hA => ?_
      refine sq hA (q_extract rfl rfl) rfl fun a hA => ?_
      refine sq hA (q_extract rfl rfl) rfl fun a hA => ?_
      refine sl hA (lo_allocA hH ti64) rfl ?_
      clear hH; rintro _ w ⟨b_t15, rfl, hH⟩ a hA
      refine s0 hA (lo_storeAm hH ti64 rfl rfl (by first | rfl | exact ordC_length hnn) (by first | rfl | exact ordC_length hnn) (ordC_one (Own.one hO_at79) (Own.one hO_bt79))) ?_
      clear hH; rintro _ w hH
      refine asg hA fun a hA => ?_
      refine wpList_nil ?_
      refine hK52 _ _ ?_
      clear hK52
      replace hA := hA.s8 16 15 12 11 6 4 3 2
      refine wp_seq_k fun K53 hK53 => ?_
      refine wp_region_lit ?_
      refine mv hA fun a hA => ?_
      refine sq hA (q_neqI (n := 0) rfl rfl) rfl fun a hA => ?_
      replace hA := hA.decF (by exact fun h => h rfl)
      refine mv hA fun a hA => ?_
      refine gq hA rfl rfl (q_loadW hH 0 rfl Tryd.underlying64 rfl ti64 rfl (by first | rfl | exact ordC_length hnn)) rfl fun a hA => ?_
      refine gq hA rfl rfl (q_loadW hH 14 rfl Tryd.underlying64 rfl ti64 rfl (by first | rfl | exact ordC_length hnn)) rfl fun a hA => ?_
      refine gl hA rfl rfl (lo_call fn41 rfl (same22_any _ _ _ _ _ _ _ (Own.rd0 hO_at79 hH 1 rfl) (Own.rd0 hO_bt79 hH 2 rfl) (by first | omega | (simp; done) | (simp; omega)) (by first | omega | (simp; done) | (simp; omega)) _ (by first | assumption | (rw [List.length_map]; assumption) | rfl | exact sha_length _ | (simp; done) | (simp [*]; done) | omega) _ _ _ _ _ _ _ (hH.rd htv) (hH.rd hpv) (by first | omega | (simp; done) | (simp; omega)) (by first | omega | (simp; done) | (simp; omega)) _ (by first | assumption | (rw [List.length_map]; assumption) | rfl | exact sha_length _ | (simp; done) | (simp [*]; done) | omega))) rfl ?_
      rintro _ w ⟨rfl, hC⟩ a hA
      replace hH := HS.call0 hH hC
      clear hC
      replace hA := hA.decT (by exact ⟨Int.toNat_of_nonneg y1, Int.toNat_of_nonneg y3, Int.toNat_of_nonneg y5, rfl, rfl, rfl⟩)
      refine gq hA rfl rfl (q_not rfl) rfl fun a hA => ?_
      refine sq hA (q_pick_f rfl rfl) rfl fun a hA => ?_
      refine wpList_nil ?_
      refine hK53 _ _ ?_
      clear hK53
      replace hA := hA.s7 89 12 11 6 4 3 2
      refine cond_f hA rfl ?_
      refine wp_skip ?_
      refine hK50 _ _ ?_
      clear hK50
      replace hA := hA.s6 12 11 6 4 3 2
      refine wp_seq_k fun K54 hK54 => ?_
      refine wp_seq_k fun K55 hK55 => ?_
      refine wp_region_lit ?_
      refine mv hA fun a hA => ?_
      refine sq hA (q_eqlI (n := 0) rfl rfl) rfl fun a hA => ?_
      refine hA.spl (fun hs91 hA => ?_) (fun hs91 hA => ?_)
      ·skip
       have hdd := decO_det hD (by omega)
       refine wpList_nil ?_
       refine hK55 _ _ ?_
       clear hK55
       replace hA := hA.s6 91 11 6 4 3 2
       refine cond_t hA rfl ?_
       refine wp_seq_k fun K56 hK56 => ?_
       refine wp_region_lit ?_
       refine sq hA (q_loadW hH 15 rfl Tryd.underlying24 rfl ti24 rfl (by first | omega | (simp; done) | (simp; omega) | (rw [List.length_map]; assumption) | assumption | rfl | (simp [*]; done) | (simp [*]; omega))) rfl fun a hA => ?_
       refine sq hA (q_loadW hH 6 rfl Tryd.underlying64 rfl ti64 rfl (by first | rfl | exact ordC_length hDn)) rfl fun a hA => ?_
       refine sl hA (lo_call fn36 rfl (encw_g (hg.mono0 hH) _ (by first | assumption | (rw [List.length_map]; assumption) | rfl | exact sha_length _ | (simp; done) | (simp [*]; done) | omega) _ _ _ _ _ _ _ (Own.rd0 hO_at45 hH 7 rfl) (Own.rd0 hO_bt45 hH 8 rfl) (by first | omega | (simp; done) | (simp; omega)) (by first | omega | (simp; done) | (simp; omega)) _ (by first | assumption | (rw [List.length_map]; assumption) | rfl | exact sha_length _ | (simp; done) | (simp [*]; done) | omega) hdd.symm)) rfl ?_
       rintro _ w ⟨v_t95, N_t95, rfl, hO_t95, hC⟩ a hA
       replace hH := HS.call0 hH hC
       clear hC
       refine mv hA fun a hA => ?_
       refine sq hA (q_extract rfl rfl) rfl fun a hA => ?_
       refine sq hA (q_extract rfl rfl) rfl fun a hA => ?_
       refine asg hA fun a hA => ?_
       refine asg hA fun a hA => ?_
       refine wpList_nil ?_
       refine hK56 _ _ ?_
       clear hK56
       replace hA := hA.s5 18 17 6 4 2
       refine wp_seq_k fun K57 hK57 => ?_
       refine wp_region_lit ?_
       refine mv hA fun a hA => ?_
       refine sq hA (q_neqI (n := 0) rfl rfl) rfl fun a hA => ?_
       replace hA := hA.decF (by exact fun h => h rfl)
       refine mv hA fun a hA => ?_
       refine gq hA rfl rfl (q_move rfl) rfl fun a hA => ?_
       refine gq hA rfl rfl (q_move rfl) rfl fun a hA => ?_
       refine gl hA rfl rfl (lo_call fn16 rfl (same_any _ _ _ _ (Own.rd0 hO_t95 hH 0 rfl) (hH.rd hr) (by first | omega | (simp; done) | (simp; omega)) (by first | omega | (simp; done) | (simp; omega)))) rfl ?_
       rintro _ w ⟨rfl, hC⟩ a hA
       replace hH := HS.call0 hH hC
       clear hC
       replace hA := hA.decT (by rfl)
       refine gq hA rfl rfl (q_not rfl) rfl fun a hA => ?_
       refine sq hA (q_pick_f rfl rfl) rfl fun a hA => ?_
       refine wpList_nil ?_
       refine hK57 _ _ ?_
       clear hK57
       replace hA := hA.s3 105 6 4
       refine cond_f hA rfl ?_
       refine wp_skip ?_
       refine hK54 _ _ ?_
       clear hK54
       replace hA := hA.s2 6 4
       refine wp_seq_k fun K58 hK58 => ?_
       refine any_go mixed (fun _ => true) hH ?_
       clear hH; intro w hH
       have hS := hH
       refine any_l 13 ?_
       refine p0 hA 1 2 rfl (fun w => (q_fld 4 Tryd.underlying64 rfl rfl ti22 rfl)) fun a hA => ?_
       refine r0 hA 2 6 rfl hS (fun w hH => (q_loadB hH 15 rfl (List.mem_singleton.2 rfl) Tryd.underlying22 rfl rfl rfl)) fun a hA => ?_
       refine p0 hA 5 38 rfl (fun w => (q_fld 4 Tryd.underlying64 rfl rfl ti22 rfl)) fun a hA => ?_
       refine r0 hA 6 102 rfl hS (fun w hH => (q_loadB hH 15 rfl (List.mem_singleton.2 rfl) Tryd.underlying22 rfl rfl rfl)) fun a hA => ?_
       refine a1 hA 0 103 rfl (lo_bs (f := B8) (e := 5) ([]) hH rfl rfl (fun w => by kernel_rfl)) ?_
       clear hH; rintro v_t106 w ⟨N_t106, hO_t106, hH⟩
       replace hS := hH.pick [1, 2, 3, 4, 5, 6, 7, 8, 9, 10, 11, 12, 13, 14, 15, 16, 17] (Hs' := [_, _, _, _, _, _, _, _, _, _, _, _, _, _, _, _, _]) rfl
       refine ⟨fun _ _ => hS, ?_⟩
       intro a hA
       refine a1 hA 3 111 rfl (lo_appm hH Tryd.underlying22 Tryd.underlying22 (.inl rfl) ti5 rfl rfl rfl hO_t106 (Rd.src (hH.rd hpv)) (one_B8 _) (by first | omega | (simp; done) | (simp; omega)) (by first | omega | (simp; done) | (simp; omega))) ?_
       clear hH; rintro v_t109 w ⟨N_t109, hO_t109, hH⟩
       replace hS := hH.pick [1, 2, 3, 4, 5, 6, 7, 8, 9, 10, 11, 12, 13, 14, 15, 16, 17] (Hs' := [_, _, _, _, _, _, _, _, _, _, _, _, _, _, _, _, _]) rfl
       refine ⟨fun _ _ => hS, ?_⟩
       intro a hA
       refine a1 hA 4 127 rfl (lo_call fn42 rfl (right22_any (hg.mono0 hH) _ _ (Own.rd0 hO_t109 hH 0 rfl) (by first | omega | (simp; done) | (simp; omega)))) ?_
       rintro _ w ⟨v_t110, N_t110, rfl, hO_t110, hC⟩
       replace hH := HS.call0 hH hC
       clear hC
       replace hS := hH.pick [2, 3, 4, 5, 6, 7, 8, 9, 10, 11, 12, 13, 14, 15, 16, 17, 18] (Hs' := [_, _, _, _, _, _, _, _, _, _, _, _, _, _, _, _, _]) rfl
       refine ⟨fun _ _ => hS, ?_⟩
       intro a hA
       refine a1 hA 7 255 rfl (lo_call fn43 rfl (refright22_any (hg.mono0 hH) _ _ (hH.rd hpv) (by first | omega | (simp; done) | (simp; omega)))) ?_
       rintro _ w ⟨v_t113, N_t113, rfl, hO_t113, hC⟩
       replace hH := HS.call0 hH hC
       clear hC
       replace hS := hH.pick [3, 4, 5, 6, 7, 8, 9, 10, 11, 12, 13, 14, 15, 16, 17, 18, 19] (Hs' := [_, _, _, _, _, _, _, _, _, _, _, _, _, _, _, _, _]) rfl
       refine ⟨fun _ _ => hS, ?_⟩
       intro a hA
       refine a1 hA 8 511 rfl (lo_call fn16 rfl (same_any _ _ _ _ (Own.rd0 hO_t110 hH 1 rfl) (Own.rd0 hO_t113 hH 0 rfl) (by first | omega | (simp; done) | (simp; omega)) (by first | omega | (simp; done) | (simp; omega)))) ?_
       rintro _ w ⟨rfl, hC⟩
       replace hH := HS.call0 hH hC
       clear hC
       replace hS := hH.pick [3, 4, 5, 6, 7, 8, 9, 10, 11, 12, 13, 14, 15, 16, 17, 18, 19] (Hs' := [_, _, _, _, _, _, _, _, _, _, _, _, _, _, _, _, _]) rfl
       refine ⟨fun _ _ => hS, ?_⟩
       intro a hA
       replace hA := hA.decT (by first | rfl | omega | assumption | (simp; done) | (simp [*]; done))
       refine p0 hA 9 1023 rfl (fun w => (q_move rfl)) fun a hA => ?_
       refine g1 hA 10 2047 rfl rfl rfl (lo_call fn35 rfl (awake22_any (hg.mono0 hH))) ?_
       rintro _ w ⟨rfl, hC⟩
       replace hH := HS.call0 hH hC
       clear hC
       replace hS := hH.pick [3, 4, 5, 6, 7, 8, 9, 10, 11, 12, 13, 14, 15, 16, 17, 18, 19] (Hs' := [_, _, _, _, _, _, _, _, _, _, _, _, _, _, _, _, _]) rfl
       refine ⟨fun _ _ => hS, ?_⟩
       intro a hA
       refine p0 hA 11 4095 rfl (fun w => (q_pick_t rfl rfl)) fun a hA => ?_
       refine p0 hA 12 8191 rfl (fun w => (q_assign rfl)) fun a hA => ?_
       refine a_end (by kernel_rfl) ?_ _
       refine hK58 _ _ ?_
       clear hK58
       replace hA := hA.s1 6
       refine wp_ret ?_
       refine post_ret hA (res_1 rfl hA rfl) ?_
       replace hH := hH.pick [] (Hs' := []) rfl
       exact ⟨_, rfl, rfl, hH⟩
      ·skip
       refine wpList_nil ?_
       refine hK55 _ _ ?_
       clear hK55
       replace hA := hA.s6 91 11 6 4 3 2
       refine cond_f hA rfl ?_
       refine wp_skip ?_
       refine hK54 _ _ ?_
       clear hK54
       replace hA := hA.s2 6 4
       refine wp_seq_k fun K59 hK59 => ?_
       refine any_go mixed (fun _ => true) hH ?_
       clear hH; intro w hH
       have hS := hH
       refine any_l 13 ?_
       refine p0 hA 1 2 rfl (fun w => (q_fld 4 Tryd.underlying64 rfl rfl ti22 rfl)) fun a hA => ?_
       refine r0 hA 2 6 rfl hS (fun w hH => (q_loadB hH 14 rfl (List.mem_singleton.2 rfl) Tryd.underlying22 rfl rfl rfl)) fun a hA => ?_
       refine p0 hA 5 38 rfl (fun w => (q_fld 4 Tryd.underlying64 rfl rfl ti22 rfl)) fun a hA => ?_
       refine r0 hA 6 102 rfl hS (fun w hH => (q_loadB hH 14 rfl (List.mem_singleton.2 rfl) Tryd.underlying22 rfl rfl rfl)) fun a hA => ?_
       refine a1 hA 0 103 rfl (lo_bs (f := B8) (e := 5) ([]) hH rfl rfl (fun w => by kernel_rfl)) ?_
       clear hH; rintro v_t106 w ⟨N_t106, hO_t106, hH⟩
       replace hS := hH.pick [1, 2, 3, 4, 5, 6, 7, 8, 9, 10, 11, 12, 13, 14, 15, 16] (Hs' := [_, _, _, _, _, _, _, _, _, _, _, _, _, _, _, _]) rfl
       refine ⟨fun _ _ => hS, ?_⟩
       intro a hA
       refine a1 hA 3 111 rfl (lo_appm hH Tryd.underlying22 Tryd.underlying22 (.inl rfl) ti5 rfl rfl rfl hO_t106 (Rd.src (hH.rd hpv)) (one_B8 _) (by first | omega | (simp; done) | (simp; omega)) (by first | omega | (simp; done) | (simp; omega))) ?_
       clear hH; rintro v_t109 w ⟨N_t109, hO_t109, hH⟩
       replace hS := hH.pick [1, 2, 3, 4, 5, 6, 7, 8, 9, 10, 11, 12, 13, 14, 15, 16] (Hs' := [_, _, _, _, _, _, _, _, _, _, _, _, _, _, _, _]) rfl
       refine ⟨fun _ _ => hS, ?_⟩
       intro a hA
       refine a1 hA 4 127 rfl (lo_call fn42 rfl (right22_any (hg.mono0 hH) _ _ (Own.rd0 hO_t109 hH 0 rfl) (by first | omega | (simp; done) | (simp; omega)))) ?_
       rintro _ w ⟨v_t110, N_t110, rfl, hO_t110, hC⟩
       replace hH := HS.call0 hH hC
       clear hC
       replace hS := hH.pick [2, 3, 4, 5, 6, 7, 8, 9, 10, 11, 12, 13, 14, 15, 16, 17] (Hs' := [_, _, _, _, _, _, _, _, _, _, _, _, _, _, _, _]) rfl
       refine ⟨fun _ _ => hS, ?_⟩
       intro a hA
       refine a1 hA 7 255 rfl (lo_call fn43 rfl (refright22_any (hg.mono0 hH) _ _ (hH.rd hpv) (by first | omega | (simp; done) | (simp; omega)))) ?_
       rintro _ w ⟨v_t113, N_t113, rfl, hO_t113, hC⟩
       replace hH := HS.call0 hH hC
       clear hC
       replace hS := hH.pick [3, 4, 5, 6, 7, 8, 9, 10, 11, 12, 13, 14, 15, 16, 17, 18] (Hs' := [_, _, _, _, _, _, _, _, _, _, _, _, _, _, _, _]) rfl
       refine ⟨fun _ _ => hS, ?_⟩
       intro a hA
       refine a1 hA 8 511 rfl (lo_call fn16 rfl (same_any _ _ _ _ (Own.rd0 hO_t110 hH 1 rfl) (Own.rd0 hO_t113 hH 0 rfl) (by first | omega | (simp; done) | (simp; omega)) (by first | omega | (simp; done) | (simp; omega)))) ?_
       rintro _ w ⟨rfl, hC⟩
       replace hH := HS.call0 hH hC
       clear hC
       replace hS := hH.pick [3, 4, 5, 6, 7, 8, 9, 10, 11, 12, 13, 14, 15, 16, 17, 18] (Hs' := [_, _, _, _, _, _, _, _, _, _, _, _, _, _, _, _]) rfl
       refine ⟨fun _ _ => hS, ?_⟩
       intro a hA
       replace hA := hA.decT (by first | rfl | omega | assumption | (simp; done) | (simp [*]; done))
       refine p0 hA 9 1023 rfl (fun w => (q_move rfl)) fun a hA => ?_
       refine g1 hA 10 2047 rfl rfl rfl (lo_call fn35 rfl (awake22_any (hg.mono0 hH))) ?_
       rintro _ w ⟨rfl, hC⟩
       replace hH := HS.call0 hH hC
       clear hC
       replace hS := hH.pick [3, 4, 5, 6, 7, 8, 9, 10, 11, 12, 13, 14, 15, 16, 17, 18] (Hs' := [_, _, _, _, _, _, _, _, _, _, _, _, _, _, _, _]) rfl
       refine ⟨fun _ _ => hS, ?_⟩
       intro a hA
       refine p0 hA 11 4095 rfl (fun w => (q_pick_t rfl rfl)) fun a hA => ?_
       refine p0 hA 12 8191 rfl (fun w => (q_assign rfl)) fun a hA => ?_
       refine a_end (by kernel_rfl) ?_ _
       refine hK59 _ _ ?_
       clear hK59
       replace hA := hA.s1 6
       refine wp_ret ?_
       refine post_ret hA (res_1 rfl hA rfl) ?_
       replace hH := hH.pick [] (Hs' := []) rfl
       exact ⟨_, rfl, rfl, hH⟩
     ·skip
      refine wpList_nil ?_
      refine hK51 _ _ ?_
      clear hK51
      replace hA := hA.s8 75 12 11 7 6 4 3 2
      refine cond_f hA rfl ?_
      refine wp_skip ?_
      refine hK50 _ _ ?_
      clear hK50
      replace hA := hA.s6 12 11 6 4 3 2
      refine wp_seq_k fun K60 hK60 => ?_
      refine wp_seq_k fun K61 hK61 => ?_
      refine wp_region_lit ?_
      refine mv hA fun a hA => ?_
      refine sq hA (q_eqlI (n := 0) rfl rfl) rfl fun a hA => ?_
      refine hA.spl (fun hs91 hA => ?_) (fun hs91 hA => ?_)
      ·skip
       have hdd := decO_det hD (by omega)
       refine wpList_nil ?_
       refine hK61 _ _ ?_
       clear hK61
       replace hA := hA.s6 91 11 6 4 3 2
       refine cond_t hA rfl ?_
       refine wp_seq_k fun K62 hK62 => ?_
       refine wp_region_lit ?_
       refine sq hA (q_loadW hH 12 rfl Tryd.underlying24 rfl ti24 rfl (by first | omega | (simp; done) | (simp; omega) | (rw [List.length_map]; assumption) | assumption | rfl | (simp [*]; done) | (simp [*]; omega))) rfl fun a hA => ?_
       refine sq hA (q_loadW hH 3 rfl Tryd.underlying64 rfl ti64 rfl (by first | rfl | exact ordC_length hDn)) rfl fun a hA => ?_
       refine sl hA (lo_call fn36 rfl (encw_g (hg.mono0 hH) _ (by first | assumption | (rw [List.length_map]; assumption) | rfl | exact sha_length _ | (simp; done) | (simp [*]; done) | omega) _ _ _ _ _ _ _ (Own.rd0 hO_at45 hH 4 rfl) (Own.rd0 hO_bt45 hH 5 rfl) (by first | omega | (simp; done) | (simp; omega)) (by first | omega | (simp; done) | (simp; omega)) _ (by first | assumption | (rw [List.length_map]; assumption) | rfl | exact sha_length _ | (simp; done) | (simp [*]; done) | omega) hdd.symm)) rfl ?_
       rintro _ w ⟨v_t95, N_t95, rfl, hO_t95, hC⟩ a hA
       replace hH := HS.call0 hH hC
       clear hC
       refine mv hA fun a hA => ?_
       refine sq hA (q_extract rfl rfl) rfl fun a hA => ?_
       refine sq hA (q_extract rfl rfl) rfl fun a hA => ?_
       refine asg hA fun a hA => ?_
       refine asg hA fun a hA => ?_
       refine wpList_nil ?_
       refine hK62 _ _ ?_
       clear hK62
       replace hA := hA.s5 18 17 6 4 2
       refine wp_seq_k fun K63 hK63 => ?_
       refine wp_region_lit ?_
       refine mv hA fun a hA => ?_
       refine sq hA (q_neqI (n := 0) rfl rfl) rfl fun a hA => ?_
       replace hA := hA.decF (by exact fun h => h rfl)
       refine mv hA fun a hA => ?_
       refine gq hA rfl rfl (q_move rfl) rfl fun a hA => ?_
       refine gq hA rfl rfl (q_move rfl) rfl fun a hA => ?_
       refine gl hA rfl rfl (lo_call fn16 rfl (same_any _ _ _ _ (Own.rd0 hO_t95 hH 0 rfl) (hH.rd hr) (by first | omega | (simp; done) | (simp; omega)) (by first | omega | (simp; done) | (simp; omega)))) rfl ?_
       rintro _ w ⟨rfl, hC⟩ a hA
       replace hH := HS.call0 hH hC
       clear hC
       replace hA := hA.decT (by rfl)
       refine gq hA rfl rfl (q_not rfl) rfl fun a hA => ?_
       refine sq hA (q_pick_f rfl rfl) rfl fun a hA => ?_
       refine wpList_nil ?_
       refine hK63 _ _ ?_
       clear hK63
       replace hA := hA.s3 105 6 4
       refine cond_f hA rfl ?_
       refine wp_skip ?_
       refine hK60 _ _ ?_
       clear hK60
       replace hA := hA.s2 6 4
       refine wp_seq_k fun K64 hK64 => ?_
       refine any_go mixed (fun _ => true) hH ?_
       clear hH; intro w hH
       have hS := hH
       refine any_l 13 ?_
       refine p0 hA 1 2 rfl (fun w => (q_fld 4 Tryd.underlying64 rfl rfl ti22 rfl)) fun a hA => ?_
       refine r0 hA 2 6 rfl hS (fun w hH => (q_loadB hH 12 rfl (List.mem_singleton.2 rfl) Tryd.underlying22 rfl rfl rfl)) fun a hA => ?_
       refine p0 hA 5 38 rfl (fun w => (q_fld 4 Tryd.underlying64 rfl rfl ti22 rfl)) fun a hA => ?_
       refine r0 hA 6 102 rfl hS (fun w hH => (q_loadB hH 12 rfl (List.mem_singleton.2 rfl) Tryd.underlying22 rfl rfl rfl)) fun a hA => ?_
       refine a1 hA 0 103 rfl (lo_bs (f := B8) (e := 5) ([]) hH rfl rfl (fun w => by kernel_rfl)) ?_
       clear hH; rintro v_t106 w ⟨N_t106, hO_t106, hH⟩
       replace hS := hH.pick [1, 2, 3, 4, 5, 6, 7, 8, 9, 10, 11, 12, 13, 14] (Hs' := [_, _, _, _, _, _, _, _, _, _, _, _, _, _]) rfl
       refine ⟨fun _ _ => hS, ?_⟩
       intro a hA
       refine a1 hA 3 111 rfl (lo_appm hH Tryd.underlying22 Tryd.underlying22 (.inl rfl) ti5 rfl rfl rfl hO_t106 (Rd.src (hH.rd hpv)) (one_B8 _) (by first | omega | (simp; done) | (simp; omega)) (by first | omega | (simp; done) | (simp; omega))) ?_
       clear hH; rintro v_t109 w ⟨N_t109, hO_t109, hH⟩
       replace hS := hH.pick [1, 2, 3, 4, 5, 6, 7, 8, 9, 10, 11, 12, 13, 14] (Hs' := [_, _, _, _, _, _, _, _, _, _, _, _, _, _]) rfl
       refine ⟨fun _ _ => hS, ?_⟩
       intro a hA
       refine a1 hA 4 127 rfl (lo_call fn42 rfl (right22_any (hg.mono0 hH) _ _ (Own.rd0 hO_t109 hH 0 rfl) (by first | omega | (simp; done) | (simp; omega)))) ?_
       rintro _ w ⟨v_t110, N_t110, rfl, hO_t110, hC⟩
       replace hH := HS.call0 hH hC
       clear hC
       replace hS := hH.pick [2, 3, 4, 5, 6, 7, 8, 9, 10, 11, 12, 13, 14, 15] (Hs' := [_, _, _, _, _, _, _, _, _, _, _, _, _, _]) rfl
       refine ⟨fun _ _ => hS, ?_⟩
       intro a hA
       refine a1 hA 7 255 rfl (lo_call fn43 rfl (refright22_any (hg.mono0 hH) _ _ (hH.rd hpv) (by first | omega | (simp; done) | (simp; omega)))) ?_
       rintro _ w ⟨v_t113, N_t113, rfl, hO_t113, hC⟩
       replace hH := HS.call0 hH hC
       clear hC
       replace hS := hH.pick [3, 4, 5, 6, 7, 8, 9, 10, 11, 12, 13, 14, 15, 16] (Hs' := [_, _, _, _, _, _, _, _, _, _, _, _, _, _]) rfl
       refine ⟨fun _ _ => hS, ?_⟩
       intro a hA
       refine a1 hA 8 511 rfl (lo_call fn16 rfl (same_any _ _ _ _ (Own.rd0 hO_t110 hH 1 rfl) (Own.rd0 hO_t113 hH 0 rfl) (by first | omega | (simp; done) | (simp; omega)) (by first | omega | (simp; done) | (simp; omega)))) ?_
       rintro _ w ⟨rfl, hC⟩
       replace hH := HS.call0 hH hC
       clear hC
       replace hS := hH.pick [3, 4, 5, 6, 7, 8, 9, 10, 11, 12, 13, 14, 15, 16] (Hs' := [_, _, _, _, _, _, _, _, _, _, _, _, _, _]) rfl
       refine ⟨fun _ _ => hS, ?_⟩
       intro a hA
       replace hA := hA.decT (by first | rfl | omega | assumption | (simp; done) | (simp [*]; done))
       refine p0 hA 9 1023 rfl (fun w => (q_move rfl)) fun a hA => ?_
       refine g1 hA 10 2047 rfl rfl rfl (lo_call fn35 rfl (awake22_any (hg.mono0 hH))) ?_
       rintro _ w ⟨rfl, hC⟩
       replace hH := HS.call0 hH hC
       clear hC
       replace hS := hH.pick [3, 4, 5, 6, 7, 8, 9, 10, 11, 12, 13, 14, 15, 16] (Hs' := [_, _, _, _, _, _, _, _, _, _, _, _, _, _]) rfl
       refine ⟨fun _ _ => hS, ?_⟩
       intro a hA
       refine p0 hA 11 4095 rfl (fun w => (q_pick_t rfl rfl)) fun a hA => ?_
       refine p0 hA 12 8191 rfl (fun w => (q_assign rfl)) fun a hA => ?_
       refine a_end (by kernel_rfl) ?_ _
       refine hK64 _ _ ?_
       clear hK64
       replace hA := hA.s1 6
       refine wp_ret ?_
       refine post_ret hA (res_1 rfl hA rfl) ?_
       replace hH := hH.pick [] (Hs' := []) rfl
       exact ⟨_, rfl, rfl, hH⟩
      ·skip
       refine wpList_nil ?_
       refine hK61 _ _ ?_
       clear hK61
       replace hA := hA.s6 91 11 6 4 3 2
       refine cond_f hA rfl ?_
       refine wp_skip ?_
       refine hK60 _ _ ?_
       clear hK60
       replace hA := hA.s2 6 4
       refine wp_seq_k fun K65 hK65 => ?_
       refine any_go mixed (fun _ => true) hH ?_
       clear hH; intro w hH
       have hS := hH
       refine any_l 13 ?_
       refine p0 hA 1 2 rfl (fun w => (q_fld 4 Tryd.underlying64 rfl rfl ti22 rfl)) fun a hA => ?_
       refine r0 hA 2 6 rfl hS (fun w hH => (q_loadB hH 11 rfl (List.mem_singleton.2 rfl) Tryd.underlying22 rfl rfl rfl)) fun a hA => ?_
       refine p0 hA 5 38 rfl (fun w => (q_fld 4 Tryd.underlying64 rfl rfl ti22 rfl)) fun a hA => ?_
       refine r0 hA 6 102 rfl hS (fun w hH => (q_loadB hH 11 rfl (List.mem_singleton.2 rfl) Tryd.underlying22 rfl rfl rfl)) fun a hA => ?_
       refine a1 hA 0 103 rfl (lo_bs (f := B8) (e := 5) ([]) hH rfl rfl (fun w => by kernel_rfl)) ?_
       clear hH; rintro v_t106 w ⟨N_t106, hO_t106, hH⟩
       replace hS := hH.pick [1, 2, 3, 4, 5, 6, 7, 8, 9, 10, 11, 12, 13] (Hs' := [_, _, _, _, _, _, _, _, _, _, _, _, _]) rfl
       refine ⟨fun _ _ => hS, ?_⟩
       intro a hA
       refine a1 hA 3 111 rfl (lo_appm hH Tryd.underlying22 Tryd.underlying22 (.inl rfl) ti5 rfl rfl rfl hO_t106 (Rd.src (hH.rd hpv)) (one_B8 _) (by first | omega | (simp; done) | (simp; omega)) (by first | omega | (simp; done) | (simp; omega))) ?_
       clear hH; rintro v_t109 w ⟨N_t109, hO_t109, hH⟩
       replace hS := hH.pick [1, 2, 3, 4, 5, 6, 7, 8, 9, 10, 11, 12, 13] (Hs' := [_, _, _, _, _, _, _, _, _, _, _, _, _]) rfl
       refine ⟨fun _ _ => hS, ?_⟩
       intro a hA
       refine a1 hA 4 127 rfl (lo_call fn42 rfl (right22_any (hg.mono0 hH) _ _ (Own.rd0 hO_t109 hH 0 rfl) (by first | omega | (simp; done) | (simp; omega)))) ?_
       rintro _ w ⟨v_t110, N_t110, rfl, hO_t110, hC⟩
       replace hH := HS.call0 hH hC
       clear hC
       replace hS := hH.pick [2, 3, 4, 5, 6, 7, 8, 9, 10, 11, 12, 13, 14] (Hs' := [_, _, _, _, _, _, _, _, _, _, _, _, _]) rfl
       refine ⟨fun _ _ => hS, ?_⟩
       intro a hA
       refine a1 hA 7 255 rfl (lo_call fn43 rfl (refright22_any (hg.mono0 hH) _ _ (hH.rd hpv) (by first | omega | (simp; done) | (simp; omega)))) ?_
       rintro _ w ⟨v_t113, N_t113, rfl, hO_t113, hC⟩
       replace hH := HS.call0 hH hC
       clear hC
       replace hS := hH.pick [3, 4, 5, 6, 7, 8, 9, 10, 11, 12, 13, 14, 15] (Hs' := [_, _, _, _, _, _, _, _, _, _, _, _, _]) rfl
       refine ⟨fun _ _ => hS, ?_⟩
       intro a hA
       refine a1 hA 8 511 rfl (lo_call fn16 rfl (same_any _ _ _ _ (Own.rd0 hO_t110 hH 1 rfl) (Own.rd0 hO_t113 hH 0 rfl) (by first | omega | (simp; done) | (simp; omega)) (by first | omega | (simp; done) | (simp; omega)))) ?_
       rintro _ w ⟨rfl, hC⟩
       replace hH := HS.call0 hH hC
       clear hC
       replace hS := hH.pick [3, 4, 5, 6, 7, 8, 9, 10, 11, 12, 13, 14, 15] (Hs' := [_, _, _, _, _, _, _, _, _, _, _, _, _]) rfl
       refine ⟨fun _ _ => hS, ?_⟩
       intro a hA
       replace hA := hA.decT (by first | rfl | omega | assumption | (simp; done) | (simp [*]; done))
       refine p0 hA 9 1023 rfl (fun w => (q_move rfl)) fun a hA => ?_
       refine g1 hA 10 2047 rfl rfl rfl (lo_call fn35 rfl (awake22_any (hg.mono0 hH))) ?_
       rintro _ w ⟨rfl, hC⟩
       replace hH := HS.call0 hH hC
       clear hC
       replace hS := hH.pick [3, 4, 5, 6, 7, 8, 9, 10, 11, 12, 13, 14, 15] (Hs' := [_, _, _, _, _, _, _, _, _, _, _, _, _]) rfl
       refine ⟨fun _ _ => hS, ?_⟩
       intro a hA
       refine p0 hA 11 4095 rfl (fun w => (q_pick_t rfl rfl)) fun a hA => ?_
       refine p0 hA 12 8191 rfl (fun w => (q_assign rfl)) fun a hA => ?_
       refine a_end (by kernel_rfl) ?_ _
       refine hK65 _ _ ?_
       clear hK65
       replace hA := hA.s1 6
       refine wp_ret ?_
       refine post_ret hA (res_1 rfl hA rfl) ?_
       replace hH := hH.pick [] (Hs' := []) rfl
       exact ⟨_, rfl, rfl, hH⟩
   ·skip
    refine o1 hA 8 261 rfl (lo_allocA hH ti64) ?_
    clear hH; rintro _ w ⟨b_t11, rfl, hH⟩
    replace hS := hH.pick [1, 2, 3, 4, 5, 6] (Hs' := [_, _, _, _, _, _]) rfl
    refine ⟨fun _ _ => hS, ?_⟩
    intro a hA
    refine a1 hA 1 263 rfl (lo_bs (f := B8) (e := 5) ([]) hH rfl rfl (fun w => by kernel_rfl)) ?_
    clear hH; rintro v_t42 w ⟨N_t42, hO_t42, hH⟩
    replace hS := hH.pick [2, 3, 4, 5, 6, 7] (Hs' := [_, _, _, _, _, _]) rfl
    refine ⟨fun _ _ => hS, ?_⟩
    intro a hA
    refine a1 hA 3 271 rfl (lo_appm hH Tryd.underlying22 Tryd.underlying22 (.inl rfl) ti5 rfl rfl rfl hO_t42 (Rd.src (hH.rd hr)) (one_B8 _) (by first | omega | (simp; done) | (simp; omega)) (by first | omega | (simp; done) | (simp; omega))) ?_
    clear hH; rintro v_t44 w ⟨N_t44, hO_t44, hH⟩
    replace hS := hH.pick [2, 3, 4, 5, 6, 7] (Hs' := [_, _, _, _, _, _]) rfl
    refine ⟨fun _ _ => hS, ?_⟩
    intro a hA
    refine a1n hA 4 287 rfl (lo_call fn39 rfl (decw_g (hg.mono0 hH) _ (by first | assumption | (rw [List.length_map]; assumption) | rfl | exact sha_length _ | (simp; done) | (simp [*]; done) | omega) _ _ (Own.rd0 hO_t44 hH 0 rfl) (by first | omega | (simp; done) | (simp; omega)) hD)) ?_
    rintro _ w ⟨v_at45, v_bt45, N_at45, N_bt45, rfl, hO_at45, hO_bt45, hC⟩
    replace hH := HS.call0 hH hC
    clear hC
    intro a hA
    refine p0 hA 5 319 rfl (fun w => (q_move rfl)) fun a hA => ?_
    refine p0 hA 6 383 rfl (fun w => (q_extract rfl rfl)) fun a hA => ?_
    refine p0 hA 7 511 rfl (fun w => (q_extract rfl rfl)) fun a hA => ?_
    replace hH := hH.pick [3, 0, 1, 2, 4, 5, 6, 7, 8, 9] (Hs' := [_, _, _, _, _, _, _, _, _, _]) rfl
    refine a0n hA 9 1023 rfl (lo_storeAm hH ti64 rfl rfl (by first | rfl | exact ordC_length hDn) (by first | rfl | exact ordC_length hDn) (ordC_one (Own.one hO_at45) (Own.one hO_bt45))) ?_
    clear hH; rintro _ w hH
    refine p0 hA 10 2047 rfl (fun w => (q_assign rfl)) fun a hA => ?_
    refine a_end (by kernel_rfl) ?_ _
    refine hK8 _ _ ?_
    clear hK8
    replace hA := hA.s10 12 11 10 9 8 7 6 4 3 2
    refine wp_seq_k fun K66 hK66 => ?_
    refine wp_region_lit ?_
    refine sq hA (q_loadW hH 9 rfl Tryd.underlying24 rfl ti24 rfl (by first | omega | (simp; done) | (simp; omega) | (rw [List.length_map]; assumption) | assumption | rfl | (simp [*]; done) | (simp [*]; omega))) rfl fun a hA => ?_
    refine mv hA fun a hA => ?_
    refine sl hA (lo_call fn40 rfl (refdecw_g (hg.mono0 hH) _ (by first | assumption | (rw [List.length_map]; assumption) | rfl | exact sha_length _ | (simp; done) | (simp [*]; done) | omega) _ _ (hH.rd hr) (by first | omega | (simp; done) | (simp; omega)) hD)) rfl ?_
    rintro _ w ⟨v_at51, v_bt51, N_at51, N_bt51, rfl, hO_at51, hO_bt51, hC⟩ a hA
    replace hH := HS.call0 hH hC
    clear hC
    refine mv hA fun a hA => ?_
    refine sq hA (q_extract rfl rfl) rfl fun a hA => ?_
    refine sq hA (q_extract rfl rfl) rfl fun a hA => ?_
    refine sl hA (lo_allocA hH ti64) rfl ?_
    clear hH; rintro _ w ⟨b_t13, rfl, hH⟩ a hA
    refine s0 hA (lo_storeAm hH ti64 rfl rfl (by first | rfl | exact ordC_length hDn) (by first | rfl | exact ordC_length hDn) (ordC_one (Own.one hO_at51) (Own.one hO_bt51))) ?_
    clear hH; rintro _ w hH
    refine asg hA fun a hA => ?_
    refine wpList_nil ?_
    refine hK66 _ _ ?_
    clear hK66
    replace hA := hA.s12 14 13 12 11 10 9 8 7 6 4 3 2
    refine wp_seq_k fun K67 hK67 => ?_
    refine wp_seq_k fun K68 hK68 => ?_
    refine wp_region_lit ?_
    refine mv hA fun a hA => ?_
    refine mv hA fun a hA => ?_
    refine sq hA (q_neqI rfl rfl) rfl fun a hA => ?_
    replace hA := hA.decF (by exact fun h => h rfl)
    refine mv hA fun a hA => ?_
    refine gq hA rfl rfl (q_move rfl) rfl fun a hA => ?_
    refine gq hA rfl rfl (q_move rfl) rfl fun a hA => ?_
    refine gl hA rfl rfl (lo_call fn16 rfl (same_any _ _ _ _ (Own.rd0 hO_t31 hH 8 rfl) (Own.rd0 hO_t37 hH 7 rfl) (by first | omega | (simp; done) | (simp; omega)) (by first | omega | (simp; done) | (simp; omega)))) rfl ?_
    rintro _ w ⟨rfl, hC⟩ a hA
    replace hH := HS.call0 hH hC
    clear hC
    replace hA := hA.decT (by rfl)
    refine gq hA rfl rfl (q_not rfl) rfl fun a hA => ?_
    refine sq hA (q_pick_f rfl rfl) rfl fun a hA => ?_
    refine mv hA fun a hA => ?_
    refine gq hA rfl rfl (q_move rfl) rfl fun a hA => ?_
    refine gq hA rfl rfl (q_move rfl) rfl fun a hA => ?_
    refine gq hA rfl rfl (q_neqI rfl rfl) rfl fun a hA => ?_
    replace hA := hA.decF (by exact fun h => h rfl)
    refine sq hA (q_pick_f rfl rfl) rfl fun a hA => ?_
    refine mv hA fun a hA => ?_
    refine gq hA rfl rfl (q_loadW hH 3 rfl Tryd.underlying64 rfl ti64 rfl (by first | rfl | exact ordC_length hDn)) rfl fun a hA => ?_
    refine gq hA rfl rfl (q_loadW hH 0 rfl Tryd.underlying64 rfl ti64 rfl (by first | rfl | exact ordC_length hDn)) rfl fun a hA => ?_
    refine gl hA rfl rfl (lo_call fn41 rfl (same22_any _ _ _ _ _ _ _ (Own.rd0 hO_at45 hH 4 rfl) (Own.rd0 hO_bt45 hH 5 rfl) (by first | omega | (simp; done) | (simp; omega)) (by first | omega | (simp; done) | (simp; omega)) _ (by first | assumption | (rw [List.length_map]; assumption) | rfl | exact sha_length _ | (simp; done) | (simp [*]; done) | omega) _ _ _ _ _ _ _ (Own.rd0 hO_at51 hH 1 rfl) (Own.rd0 hO_bt51 hH 2 rfl) (by first | omega | (simp; done) | (simp; omega)) (by first | omega | (simp; done) | (simp; omega)) _ (by first | assumption | (rw [List.length_map]; assumption) | rfl | exact sha_length _ | (simp; done) | (simp [*]; done) | omega))) rfl ?_
    rintro _ w ⟨rfl, hC⟩ a hA
    replace hH := HS.call0 hH hC
    clear hC
    replace hA := hA.decT (by exact ⟨rfl, rfl, rfl, rfl, rfl, rfl⟩)
    refine gq hA rfl rfl (q_not rfl) rfl fun a hA => ?_
    refine sq hA (q_pick_f rfl rfl) rfl fun a hA => ?_
    refine wpList_nil ?_
    refine hK68 _ _ ?_
    clear hK68
    replace hA := hA.s9 73 12 11 8 7 6 4 3 2
    refine cond_f hA rfl ?_
    refine wp_skip ?_
    refine hK67 _ _ ?_
    clear hK67
    replace hA := hA.s8 12 11 8 7 6 4 3 2
    refine wp_seq_k fun K69 hK69 => ?_
    refine wp_seq_k fun K70 hK70 => ?_
    refine wp_region_lit ?_
    refine mv hA fun a hA => ?_
    refine sq hA (q_eqlI (n := 0) rfl rfl) rfl fun a hA => ?_
    refine hA.spl (fun hs75 hA => ?_) (fun hs75 hA => ?_)
    ·skip
     have hM : MayO jj aa ii T Pl := encO_2 (key := key) (n := nn) (by rw [← hE]; omega)
     have hbk := decO_back (key := key) (n := nn) hM hnn
     rw [← hE] at hbk
     obtain ⟨⟨y1, y2⟩, ⟨y3, y4⟩, ⟨y5, y6⟩, y7, y8⟩ := id hM
     refine wpList_nil ?_
     refine hK70 _ _ ?_
     clear hK70
     replace hA := hA.s8 75 12 11 7 6 4 3 2
     refine cond_t hA rfl ?_
     refine wp_seq_k fun K71 hK71 => ?_
     refine wp_region_lit ?_
     refine sq hA (q_loadW hH 12 rfl Tryd.underlying24 rfl ti24 rfl (by first | omega | (simp; done) | (simp; omega) | (rw [List.length_map]; assumption) | assumption | rfl | (simp [*]; done) | (simp [*]; omega))) rfl fun a hA => ?_
     refine mv hA fun a hA => ?_
     refine sl hA (lo_call fn39 rfl (decw_g (hg.mono0 hH) _ (by first | assumption | (rw [List.length_map]; assumption) | rfl | exact sha_length _ | (simp; done) | (simp [*]; done) | omega) _ _ (Own.rd0 hO_t31 hH 8 rfl) (by first | omega | (simp; done) | (simp; omega)) (D := ((jj.toNat, aa.toNat, ii.toNat, T, Pl, nn), 0)) hbk.symm)) rfl ?_
     rintro _ w ⟨v_at79, v_bt79, N_at79, N_bt79, rfl, hO_at79, hO_bt79, hC⟩ a hA
     replace hH := HS.call0 hH hC
     clear hC
     refine mv hA fun a hA => ?_
     refine sq hA (q_extract rfl rfl) rfl fun a hA => ?_
     refine sq hA (q_extract rfl rfl) rfl fun a hA => ?_
     refine sl hA (lo_allocA hH ti64) rfl ?_
     clear hH; rintro _ w ⟨b_t15, rfl, hH⟩ a hA
     refine s0 hA (lo_storeAm hH ti64 rfl rfl (by first | rfl | exact ordC_length hnn) (by first | rfl | exact ordC_length hnn) (ordC_one (Own.one hO_at79) (Own.one hO_bt79))) ?_
     clear hH; rintro _ w hH
     refine asg hA fun a hA => ?_
     refine wpList_nil ?_
     refine hK71 _ _ ?_
     clear hK71
     replace hA := hA.s8 16 15 12 11 6 4 3 2
     refine wp_seq_k fun K72 hK72 => ?_
     refine wp_region_lit ?_
     refine mv hA fun a hA => ?_
     refine sq hA (q_neqI (n := 0) rfl rfl) rfl fun a hA => ?_
     replace hA := hA.decF (by exact fun h => h rfl)
     refine mv hA fun a hA => ?_
     refine gq hA rfl rfl (q_loadW hH 0 rfl Tryd.underlying64 rfl ti64 rfl (by first | rfl | exact ordC_length hnn)) rfl fun a hA => ?_
     refine gq hA rfl rfl (q_loadW hH 14 rfl Tryd.underlying64 rfl ti64 rfl (by first | rfl | exact ordC_length hnn)) rfl fun a hA => ?_
     refine gl hA rfl rfl (lo_call fn41 rfl (same22_any _ _ _ _ _ _ _ (Own.rd0 hO_at79 hH 1 rfl) (Own.rd0 hO_bt79 hH 2 rfl) (by first | omega | (simp; done) | (simp; omega)) (by first | omega | (simp; done) | (simp; omega)) _ (by first | assumption | (rw [List.length_map]; assumption) | rfl | exact sha_length _ | (simp; done) | (simp [*]; done) | omega) _ _ _ _ _ _ _ (hH.rd htv) (hH.rd hpv) (by first | omega | (simp; done) | (simp; omega)) (by first | omega | (simp; done) | (simp; omega)) _ (by first | assumption | (rw [List.length_map]; assumption) | rfl | exact sha_length _ | (simp; done) | (simp [*]; done) | omega))) rfl ?_
     rintro _ w ⟨rfl, hC⟩ a hA
     replace hH := HS.call0 hH hC
     clear hC
     replace hA := hA.decT (by exact ⟨Int.toNat_of_nonneg y1, Int.toNat_of_nonneg y3, Int.toNat_of_nonneg y5, rfl, rfl, rfl⟩)
     refine gq hA rfl rfl (q_not rfl) rfl fun a hA => ?_
     refine sq hA (q_pick_f rfl rfl) rfl fun a hA => ?_
     refine wpList_nil ?_
     refine hK72 _ _ ?_
     clear hK72
     replace hA := hA.s7 89 12 11 6 4 3 2
     refine cond_f hA rfl ?_
     refine wp_skip ?_
     refine hK69 _ _ ?_
     clear hK69
     replace hA := hA.s6 12 11 6 4 3 2
     refine wp_seq_k fun K73 hK73 => ?_
     refine wp_seq_k fun K74 hK74 => ?_
     refine wp_region_lit ?_
     refine mv hA fun a hA => ?_
     refine sq hA (q_eqlI (n := 0) rfl rfl) rfl fun a hA => ?_
     refine hA.spl (fun hs91 hA => ?_) (fun hs91 hA => ?_)
     ·skip
      have hdd := decO_det hD (by omega)
      refine wpList_nil ?_
      refine hK74 _ _ ?_
      clear hK74
      replace hA := hA.s6 91 11 6 4 3 2
      refine cond_t hA rfl ?_
      refine wp_seq_k fun K75 hK75 => ?_
      refine wp_region_lit ?_
      refine sq hA (q_loadW hH 15 rfl Tryd.underlying24 rfl ti24 rfl (by first | omega | (simp; done) | (simp; omega) | (rw [List.length_map]; assumption) | assumption | rfl | (simp [*]; done) | (simp [*]; omega))) rfl fun a hA => ?_
      refine sq hA (q_loadW hH 6 rfl Tryd.underlying64 rfl ti64 rfl (by first | rfl | exact ordC_length hDn)) rfl fun a hA => ?_
      refine sl hA (lo_call fn36 rfl (encw_g (hg.mono0 hH) _ (by first | assumption | (rw [List.length_map]; assumption) | rfl | exact sha_length _ | (simp; done) | (simp [*]; done) | omega) _ _ _ _ _ _ _ (Own.rd0 hO_at45 hH 7 rfl) (Own.rd0 hO_bt45 hH 8 rfl) (by first | omega | (simp; done) | (simp; omega)) (by first | omega | (simp; done) | (simp; omega)) _ (by first | assumption | (rw [List.length_map]; assumption) | rfl | exact sha_length _ | (simp; done) | (simp [*]; done) | omega) hdd.symm)) rfl ?_
      rintro _ w ⟨v_t95, N_t95, rfl, hO_t95, hC⟩ a hA
      replace hH := HS.call0 hH hC
      clear hC
      refine mv hA fun a hA => ?_
      refine sq hA (q_extract rfl rfl) rfl fun a hA => ?_
      refine sq hA (q_extract rfl rfl) rfl fun a hA => ?_
      refine asg hA fun a hA => ?_
      refine asg hA fun a hA => ?_
      refine wpList_nil ?_
      refine hK75 _ _ ?_
      clear hK75
      replace hA := hA.s5 18 17 6 4 2
      refine wp_seq_k fun K76 hK76 => ?_
      refine wp_region_lit ?_
      refine mv hA fun a hA => ?_
      refine sq hA (q_neqI (n := 0) rfl rfl) rfl fun a hA => ?_
      replace hA := hA.decF (by exact fun h => h rfl)
      refine mv hA fun a hA => ?_
      refine gq hA rfl rfl (q_move rfl) rfl fun a hA => ?_
      refine gq hA rfl rfl (q_move rfl) rfl fun a hA => ?_
      refine gl hA rfl rfl (lo_call fn16 rfl (same_any _ _ _ _ (Own.rd0 hO_t95 hH 0 rfl) (hH.rd hr) (by first | omega | (simp; done) | (simp; omega)) (by first | omega | (simp; done) | (simp; omega)))) rfl ?_
      rintro _ w ⟨rfl, hC⟩ a hA
      replace hH := HS.call0 hH hC
      clear hC
      replace hA := hA.decT (by rfl)
      refine gq hA rfl rfl (q_not rfl) rfl fun a hA => ?_
      refine sq hA (q_pick_f rfl rfl) rfl fun a hA => ?_
      refine wpList_nil ?_
      refine hK76 _ _ ?_
      clear hK76
      replace hA := hA.s3 105 6 4
      refine cond_f hA rfl ?_
      refine wp_skip ?_
      refine hK73 _ _ ?_
      clear hK73
      replace hA := hA.s2 6 4
      refine wp_seq_k fun K77 hK77 => ?_
      refine any_go mixed (fun _ => true) hH ?_
      clear hH; intro w hH
      have hS := hH
      refine any_l 13 ?_
      refine p0 hA 1 2 rfl (fun w => (q_fld 4 Tryd.underlying64 rfl rfl ti22 rfl)) fun a hA => ?_
      refine r0 hA 2 6 rfl hS (fun w hH => (q_loadB hH 15 rfl (List.mem_singleton.2 rfl) Tryd.underlying22 rfl rfl rfl)) fun a hA => ?_
      refine p0 hA 5 38 rfl (fun w => (q_fld 4 Tryd.underlying64 rfl rfl ti22 rfl)) fun a hA => ?_
      refine r0 hA 6 102 rfl hS (fun w hH => (q_loadB hH 15 rfl (List.mem_singleton.2 rfl) Tryd.underlying22 rfl rfl rfl)) fun a hA => ?_
      refine a1 hA 0 103 rfl (lo_bs (f := B8) (e := 5) ([]) hH rfl rfl (fun w => by kernel_rfl)) ?_
      clear hH; rintro v_t106 w ⟨N_t106, hO_t106, hH⟩
      replace hS := hH.pick [1, 2, 3, 4, 5, 6, 7, 8, 9, 10, 11, 12, 13, 14, 15, 16, 17] (Hs' := [_, _, _, _, _, _, _, _, _, _, _, _, _, _, _, _, _]) rfl
      refine ⟨fun _ _ => hS, ?_⟩
      intro a hA
      refine a1 hA 3 111 rfl (lo_appm hH Tryd.underlying22 Tryd.underlying22 (.inl rfl) ti5 rfl rfl rfl hO_t106 (Rd.src (hH.rd hpv)) (one_B8 _) (by first | omega | (simp; done) | (simp; omega)) (by first | omega | (simp; done) | (simp; omega))) ?_
      clear hH; rintro v_t109 w ⟨N_t109, hO_t109, hH⟩
      replace hS := hH.pick [1, 2, 3, 4, 5, 6, 7, 8, 9, 10, 11, 12, 13, 14, 15, 16, 17] (Hs' := [_, _, _, _, _, _, _, _, _, _, _, _, _, _, _, _, _]) rfl
      refine ⟨fun _ _ => hS, ?_⟩
      intro a hA
      refine a1 hA 4 127 rfl (lo_call fn42 rfl (right22_any (hg.mono0 hH) _ _ (Own.rd0 hO_t109 hH 0 rfl) (by first | omega | (simp; done) | (simp; omega)))) ?_
      rintro _ w ⟨v_t110, N_t110, rfl, hO_t110, hC⟩
      replace hH := HS.call0 hH hC
      clear hC
      replace hS := hH.pick [2, 3, 4, 5, 6, 7, 8, 9, 10, 11, 12, 13, 14, 15, 16, 17, 18] (Hs' := [_, _, _, _, _, _, _, _, _, _, _, _, _, _, _, _, _]) rfl
      refine ⟨fun _ _ => hS, ?_⟩
      intro a hA
      refine a1 hA 7 255 rfl (lo_call fn43 rfl (refright22_any (hg.mono0 hH) _ _ (hH.rd hpv) (by first | omega | (simp; done) | (simp; omega)))) ?_
      rintro _ w ⟨v_t113, N_t113, rfl, hO_t113, hC⟩
      replace hH := HS.call0 hH hC
      clear hC
      replace hS := hH.pick [3, 4, 5, 6, 7, 8, 9, 10, 11, 12, 13, 14, 15, 16, 17, 18, 19] (Hs' := [_, _, _, _, _, _, _, _, _, _, _, _, _, _, _, _, _]) rfl
      refine ⟨fun _ _ => hS, ?_⟩
      intro a hA
      refine a1 hA 8 511 rfl (lo_call fn16 rfl (same_any _ _ _ _ (Own.rd0 hO_t110 hH 1 rfl) (Own.rd0 hO_t113 hH 0 rfl) (by first | omega | (simp; done) | (simp; omega)) (by first | omega | (simp; done) | (simp; omega)))) ?_
      rintro _ w ⟨rfl, hC⟩
      replace hH := HS.call0 hH hC
      clear hC
      replace hS := hH.pick [3, 4, 5, 6, 7, 8, 9, 10, 11, 12, 13, 14, 15, 16, 17, 18, 19] (Hs' := [_, _, _, _, _, _, _, _, _, _, _, _, _, _, _, _, _]) rfl
      refine ⟨fun _ _ => hS, ?_⟩
      intro a hA
      replace hA := hA.decT (by first | rfl | omega | assumption | (simp; done) | (simp [*]; done))
      refine p0 hA 9 1023 rfl (fun w => (q_move rfl)) fun a hA => ?_
      refine g1 hA 10 2047 rfl rfl rfl (lo_call fn35 rfl (awake22_any (hg.mono0 hH))) ?_
      rintro _ w ⟨rfl, hC⟩
      replace hH := HS.call0 hH hC
      clear hC
      replace hS := hH.pick [3, 4, 5, 6, 7, 8, 9, 10, 11, 12, 13, 14, 15, 16, 17, 18, 19] (Hs' := [_, _, _, _, _, _, _, _, _, _, _, _, _, _, _, _, _]) rfl
      refine ⟨fun _ _ => hS, ?_⟩
      intro a hA
      refine p0 hA 11 4095 rfl (fun w => (q_pick_t rfl rfl)) fun a hA => ?_
      refine p0 hA 12 8191 rfl (fun w => (q_assign rfl)) fun a hA => ?_
      refine a_end (by kernel_rfl) ?_ _
      refine hK77 _ _ ?_
      clear hK77
      replace hA := hA.s1 6
      refine wp_ret ?_
      refine post_ret hA (res_1 rfl hA rfl) ?_
      replace hH := hH.pick [] (Hs' := []) rfl
      exact ⟨_, rfl, rfl, hH⟩
     ·skip
      refine wpList_nil ?_
      refine hK74 _ _ ?_
      clear hK74
      replace hA := hA.s6 91 11 6 4 3 2
      refine cond_f hA rfl ?_
      refine wp_skip ?_
      refine hK73 _ _ ?_
      clear hK73
      replace hA := hA.s2 6 4
      refine wp_seq_k fun K78 hK78 => ?_
      refine any_go mixed (fun _ => true) hH ?_
      clear hH; intro w hH
      have hS := hH
      refine any_l 13 ?_
      refine p0 hA 1 2 rfl (fun w => (q_fld 4 Tryd.underlying64 rfl rfl ti22 rfl)) fun a hA => ?_
      refine r0 hA 2 6 rfl hS (fun w hH => (q_loadB hH 14 rfl (List.mem_singleton.2 rfl) Tryd.underlying22 rfl rfl rfl)) fun a hA => ?_
      refine p0 hA 5 38 rfl (fun w => (q_fld 4 Tryd.underlying64 rfl rfl ti22 rfl)) fun a hA => ?_
      refine r0 hA 6 102 rfl hS (fun w hH => (q_loadB hH 14 rfl (List.mem_singleton.2 rfl) Tryd.underlying22 rfl rfl rfl)) fun a hA => ?_
      refine a1 hA 0 103 rfl (lo_bs (f := B8) (e := 5) ([]) hH rfl rfl (fun w => by kernel_rfl)) ?_
      clear hH; rintro v_t106 w ⟨N_t106, hO_t106, hH⟩
      replace hS := hH.pick [1, 2, 3, 4, 5, 6, 7, 8, 9, 10, 11, 12, 13, 14, 15, 16] (Hs' := [_, _, _, _, _, _, _, _, _, _, _, _, _, _, _, _]) rfl
      refine ⟨fun _ _ => hS, ?_⟩
      intro a hA
      refine a1 hA 3 111 rfl (lo_appm hH Tryd.underlying22 Tryd.underlying22 (.inl rfl) ti5 rfl rfl rfl hO_t106 (Rd.src (hH.rd hpv)) (one_B8 _) (by first | omega | (simp; done) | (simp; omega)) (by first | omega | (simp; done) | (simp; omega))) ?_
      clear hH; rintro v_t109 w ⟨N_t109, hO_t109, hH⟩
      replace hS := hH.pick [1, 2, 3, 4, 5, 6, 7, 8, 9, 10, 11, 12, 13, 14, 15, 16] (Hs' := [_, _, _, _, _, _, _, _, _, _, _, _, _, _, _, _]) rfl
      refine ⟨fun _ _ => hS, ?_⟩
      intro a hA
      refine a1 hA 4 127 rfl (lo_call fn42 rfl (right22_any (hg.mono0 hH) _ _ (Own.rd0 hO_t109 hH 0 rfl) (by first | omega | (simp; done) | (simp; omega)))) ?_
      rintro _ w ⟨v_t110, N_t110, rfl, hO_t110, hC⟩
      replace hH := HS.call0 hH hC
      clear hC
      replace hS := hH.pick [2, 3, 4, 5, 6, 7, 8, 9, 10, 11, 12, 13, 14, 15, 16, 17] (Hs' := [_, _, _, _, _, _, _, _, _, _, _, _, _, _, _, _]) rfl
      refine ⟨fun _ _ => hS, ?_⟩
      intro a hA
      refine a1 hA 7 255 rfl (lo_call fn43 rfl (refright22_any (hg.mono0 hH) _ _ (hH.rd hpv) (by first | omega | (simp; done) | (simp; omega)))) ?_
      rintro _ w ⟨v_t113, N_t113, rfl, hO_t113, hC⟩
      replace hH := HS.call0 hH hC
      clear hC
      replace hS := hH.pick [3, 4, 5, 6, 7, 8, 9, 10, 11, 12, 13, 14, 15, 16, 17, 18] (Hs' := [_, _, _, _, _, _, _, _, _, _, _, _, _, _, _, _]) rfl
      refine ⟨fun _ _ => hS, ?_⟩
      intro a hA
      refine a1 hA 8 511 rfl (lo_call fn16 rfl (same_any _ _ _ _ (Own.rd0 hO_t110 hH 1 rfl) (Own.rd0 hO_t113 hH 0 rfl) (by first | omega | (simp; done) | (simp; omega)) (by first | omega | (simp; done) | (simp; omega)))) ?_
      rintro _ w ⟨rfl, hC⟩
      replace hH := HS.call0 hH hC
      clear hC
      replace hS := hH.pick [3, 4, 5, 6, 7, 8, 9, 10, 11, 12, 13, 14, 15, 16, 17, 18] (Hs' := [_, _, _, _, _, _, _, _, _, _, _, _, _, _, _, _]) rfl
      refine ⟨fun _ _ => hS, ?_⟩
      intro a hA
      replace hA := hA.decT (by first | rfl | omega | assumption | (simp; done) | (simp [*]; done))
      refine p0 hA 9 1023 rfl (fun w => (q_move rfl)) fun a hA => ?_
      refine g1 hA 10 2047 rfl rfl rfl (lo_call fn35 rfl (awake22_any (hg.mono0 hH))) ?_
      rintro _ w ⟨rfl, hC⟩
      replace hH := HS.call0 hH hC
      clear hC
      replace hS := hH.pick [3, 4, 5, 6, 7, 8, 9, 10, 11, 12, 13, 14, 15, 16, 17, 18] (Hs' := [_, _, _, _, _, _, _, _, _, _, _, _, _, _, _, _]) rfl
      refine ⟨fun _ _ => hS, ?_⟩
      intro a hA
      refine p0 hA 11 4095 rfl (fun w => (q_pick_t rfl rfl)) fun a hA => ?_
      refine p0 hA 12 8191 rfl (fun w => (q_assign rfl)) fun a hA => ?_
      refine a_end (by kernel_rfl) ?_ _
      refine hK78 _ _ ?_
      clear hK78
      replace hA := hA.s1 6
      refine wp_ret ?_
      refine post_ret hA (res_1 rfl hA rfl) ?_
      replace hH := hH.pick [] (Hs' := []) rfl
      exact ⟨_, rfl, rfl, hH⟩
    ·skip
     refine wpList_nil ?_
     refine hK70 _ _ ?_
     clear hK70
     replace hA := hA.s8 75 12 11 7 6 4 3 2
     refine cond_f hA rfl ?_
     refine wp_skip ?_
     refine hK69 _ _ ?_
     clear hK69
     replace hA := hA.s6 12 11 6 4 3 2
     refine wp_seq_k fun K79 hK79 => ?_
     refine wp_seq_k fun K80 hK80 => ?_
     refine wp_region_lit ?_
     refine mv hA fun a hA => ?_
     refine sq hA (q_eqlI (n := 0) rfl rfl) rfl fun a hA => ?_
     refine hA.spl (fun hs91 hA => ?_) (fun hs91 hA => ?_)
     ·skip
      have hdd := decO_det hD (by omega)
      refine wpList_nil ?_
      refine hK80 _ _ ?_
      clear hK80
      replace hA := hA.s6 91 11 6 4 3 2
      refine cond_t hA rfl ?_
      refine wp_seq_k fun K81 hK81 => ?_
      refine wp_region_lit ?_
      refine sq hA (q_loadW hH 12 rfl Tryd.underlying24 rfl ti24 rfl (by first | omega | (simp; done) | (simp; omega) | (rw [List.length_map]; assumption) | assumption | rfl | (simp [*]; done) | (simp [*]; omega))) rfl fun a hA => ?_
      refine sq hA (q_loadW hH 3 rfl Tryd.underlying64 rfl ti64 rfl (by first | rfl | exact ordC_length hDn)) rfl fun a hA => ?_
      refine sl hA (lo_call fn36 rfl (encw_g (hg.mono0 hH) _ (by first | assumption | (rw [List.length_map]; assumption) | rfl | exact sha_length _ | (simp; done) | (simp [*]; done) | omega) _ _ _ _ _ _ _ (Own.rd0 hO_at45 hH 4 rfl) (Own.rd0 hO_bt45 hH 5 rfl) (by first | omega | (simp; done) | (simp; omega)) (by first | omega | (simp; done) | (simp; omega)) _ (by first | assumption | (rw [List.length_map]; assumption) | rfl | exact sha_length _ | (simp; done) | (simp [*]; done) | omega) hdd.symm)) rfl ?_
      rintro _ w ⟨v_t95, N_t95, rfl, hO_t95, hC⟩ a hA
      replace hH := HS.call0 hH hC
      clear hC
      refine mv hA fun a hA => ?_
      refine sq hA (q_extract rfl rfl) rfl fun a hA => ?_
      refine sq hA (q_extract rfl rfl) rfl fun a hA => ?_
      refine asg hA fun a hA => ?_
      refine asg hA fun a hA => ?_
      refine wpList_nil ?_
      refine hK81 _ _ ?_
      clear hK81
      replace hA := hA.s5 18 17 6 4 2
      refine wp_seq_k fun K82 hK82 => ?_
      refine wp_region_lit ?_
      refine mv hA fun a hA => ?_
      refine sq hA (q_neqI (n := 0) rfl rfl) rfl fun a hA => ?_
      replace hA := hA.decF (by exact fun h => h rfl)
      refine mv hA fun a hA => ?_
      refine gq hA rfl rfl (q_move rfl) rfl fun a hA => ?_
      refine gq hA rfl rfl (q_move rfl) rfl fun a hA => ?_
      refine gl hA rfl rfl (lo_call fn16 rfl (same_any _ _ _ _ (Own.rd0 hO_t95 hH 0 rfl) (hH.rd hr) (by first | omega | (simp; done) | (simp; omega)) (by first | omega | (simp; done) | (simp; omega)))) rfl ?_
      rintro _ w ⟨rfl, hC⟩ a hA
      replace hH := HS.call0 hH hC
      clear hC
      replace hA := hA.decT (by rfl)
      refine gq hA rfl rfl (q_not rfl) rfl fun a hA => ?_
      refine sq hA (q_pick_f rfl rfl) rfl fun a hA => ?_
      refine wpList_nil ?_
      refine hK82 _ _ ?_
      clear hK82
      replace hA := hA.s3 105 6 4
      refine cond_f hA rfl ?_
      refine wp_skip ?_
      refine hK79 _ _ ?_
      clear hK79
      replace hA := hA.s2 6 4
      refine wp_seq_k fun K83 hK83 => ?_
      refine any_go mixed (fun _ => true) hH ?_
      clear hH; intro w hH
      have hS := hH
      refine any_l 13 ?_
      refine p0 hA 1 2 rfl (fun w => (q_fld 4 Tryd.underlying64 rfl rfl ti22 rfl)) fun a hA => ?_
      refine r0 hA 2 6 rfl hS (fun w hH => (q_loadB hH 12 rfl (List.mem_singleton.2 rfl) Tryd.underlying22 rfl rfl rfl)) fun a hA => ?_
      refine p0 hA 5 38 rfl (fun w => (q_fld 4 Tryd.underlying64 rfl rfl ti22 rfl)) fun a hA => ?_
      refine r0 hA 6 102 rfl hS (fun w hH => (q_loadB hH 12 rfl (List.mem_singleton.2 rfl) Tryd.underlying22 rfl rfl rfl)) fun a hA => ?_
      refine a1 hA 0 103 rfl (lo_bs (f := B8) (e := 5) ([]) hH rfl rfl (fun w => by kernel_rfl)) ?_
      clear hH; rintro v_t106 w ⟨N_t106, hO_t106, hH⟩
      replace hS := hH.pick [1, 2, 3, 4, 5, 6, 7, 8, 9, 10, 11, 12, 13, 14] (Hs' := [_, _, _, _, _, _, _, _, _, _, _, _, _, _]) rfl
      refine ⟨fun _ _ => hS, ?_⟩
      intro a hA
      refine a1 hA 3 111 rfl (lo_appm hH Tryd.underlying22 Tryd.underlying22 (.inl rfl) ti5 rfl rfl rfl hO_t106 (Rd.src (hH.rd hpv)) (one_B8 _) (by first | omega | (simp; done) | (simp; omega)) (by first | omega | (simp; done) | (simp; omega))) ?_
      clear hH; rintro v_t109 w ⟨N_t109, hO_t109, hH⟩
      replace hS := hH.pick [1, 2, 3, 4, 5, 6, 7, 8, 9, 10, 11, 12, 13, 14] (Hs' := [_, _, _, _, _, _, _, _, _, _, _, _, _, _]) rfl
      refine ⟨fun _ _ => hS, ?_⟩
      intro a hA
      refine a1 hA 4 127 rfl (lo_call fn42 rfl (right22_any (hg.mono0 hH) _ _ (Own.rd0 hO_t109 hH 0 rfl) (by first | omega | (simp; done) | (simp; omega)))) ?_
      rintro _ w ⟨v_t110, N_t110, rfl, hO_t110, hC⟩
      replace hH := HS.call0 hH hC
      clear hC
      replace hS := hH.pick [2, 3, 4, 5, 6, 7, 8, 9, 10, 11, 12, 13, 14, 15] (Hs' := [_, _, _, _, _, _, _, _, _, _, _, _, _, _]) rfl
      refine ⟨fun _ _ => hS, ?_⟩
      intro a hA
      refine a1 hA 7 255 rfl (lo_call fn43 rfl (refright22_any (hg.mono0 hH) _ _ (hH.rd hpv) (by first | omega | (simp; done) | (simp; omega)))) ?_
      rintro _ w ⟨v_t113, N_t113, rfl, hO_t113, hC⟩
      replace hH := HS.call0 hH hC
      clear hC
      replace hS := hH.pick [3, 4, 5, 6, 7, 8, 9, 10, 11, 12, 13, 14, 15, 16] (Hs' := [_, _, _, _, _, _, _, _, _, _, _, _, _, _]) rfl
      refine ⟨fun _ _ => hS, ?_⟩
      intro a hA
      refine a1 hA 8 511 rfl (lo_call fn16 rfl (same_any _ _ _ _ (Own.rd0 hO_t110 hH 1 rfl) (Own.rd0 hO_t113 hH 0 rfl) (by first | omega | (simp; done) | (simp; omega)) (by first | omega | (simp; done) | (simp; omega)))) ?_
      rintro _ w ⟨rfl, hC⟩
      replace hH := HS.call0 hH hC
      clear hC
      replace hS := hH.pick [3, 4, 5, 6, 7, 8, 9, 10, 11, 12, 13, 14, 15, 16] (Hs' := [_, _, _, _, _, _, _, _, _, _, _, _, _, _]) rfl
      refine ⟨fun _ _ => hS, ?_⟩
      intro a hA
      replace hA := hA.decT (by first | rfl | omega | assumption | (simp; done) | (simp [*]; done))
      refine p0 hA 9 1023 rfl (fun w => (q_move rfl)) fun a hA => ?_
      refine g1 hA 10 2047 rfl rfl rfl (lo_call fn35 rfl (awake22_any (hg.mono0 hH))) ?_
      rintro _ w ⟨rfl, hC⟩
      replace hH := HS.call0 hH hC
      clear hC
      replace hS := hH.pick [3, 4, 5, 6, 7, 8, 9, 10, 11, 12, 13, 14, 15, 16] (Hs' := [_, _, _, _, _, _, _, _, _, _, _, _, _, _]) rfl
      refine ⟨fun _ _ => hS, ?_⟩
      intro a hA
      refine p0 hA 11 4095 rfl (fun w => (q_pick_t rfl rfl)) fun a hA => ?_
      refine p0 hA 12 8191 rfl (fun w => (q_assign rfl)) fun a hA => ?_
      refine a_end (by kernel_rfl) ?_ _
      refine hK83 _ _ ?_
      clear hK83
      replace hA := hA.s1 6
      refine wp_ret ?_
      refine post_ret hA (res_1 rfl hA rfl) ?_
      replace hH := hH.pick [] (Hs' := []) rfl
      exact ⟨_, rfl, rfl, hH⟩
     ·skip
      refine wpList_nil ?_
      refine hK80 _ _ ?_
      clear hK80
      replace hA := hA.s6 91 11 6 4 3 2
      refine cond_f hA rfl ?_
      refine wp_skip ?_
      refine hK79 _ _ ?_
      clear hK79
      replace hA := hA.s2 6 4
      refine wp_seq_k fun K84 hK84 => ?_
      refine any_go mixed (fun _ => true) hH ?_
      clear hH; intro w hH
      have hS := hH
      refine any_l 13 ?_
      refine p0 hA 1 2 rfl (fun w => (q_fld 4 Tryd.underlying64 rfl rfl ti22 rfl)) fun a hA => ?_
      refine r0 hA 2 6 rfl hS (fun w hH => (q_loadB hH 11 rfl (List.mem_singleton.2 rfl) Tryd.underlying22 rfl rfl rfl)) fun a hA => ?_
      refine p0 hA 5 38 rfl (fun w => (q_fld 4 Tryd.underlying64 rfl rfl ti22 rfl)) fun a hA => ?_
      refine r0 hA 6 102 rfl hS (fun w hH => (q_loadB hH 11 rfl (List.mem_singleton.2 rfl) Tryd.underlying22 rfl rfl rfl)) fun a hA => ?_
      refine a1 hA 0 103 rfl (lo_bs (f := B8) (e := 5) ([]) hH rfl rfl (fun w => by kernel_rfl)) ?_
      clear hH; rintro v_t106 w ⟨N_t106, hO_t106, hH⟩
      replace hS := hH.pick [1, 2, 3, 4, 5, 6, 7, 8, 9, 10, 11, 12, 13] (Hs' := [_, _, _, _, _, _, _, _, _, _, _, _, _]) rfl
      refine ⟨fun _ _ => hS, ?_⟩
      intro a hA
      refine a1 hA 3 111 rfl (lo_appm hH Tryd.underlying22 Tryd.underlying22 (.inl rfl) ti5 rfl rfl rfl hO_t106 (Rd.src (hH.rd hpv)) (one_B8 _) (by first | omega | (simp; done) | (simp; omega)) (by first | omega | (simp; done) | (simp; omega))) ?_
      clear hH; rintro v_t109 w ⟨N_t109, hO_t109, hH⟩
      replace hS := hH.pick [1, 2, 3, 4, 5, 6, 7, 8, 9, 10, 11, 12, 13] (Hs' := [_, _, _, _, _, _, _, _, _, _, _, _, _]) rfl
      refine ⟨fun _ _ => hS, ?_⟩
      intro a hA
      refine a1 hA 4 127 rfl (lo_call fn42 rfl (right22_any (hg.mono0 hH) _ _ (Own.rd0 hO_t109 hH 0 rfl) (by first | omega | (simp; done) | (simp; omega)))) ?_
      rintro _ w ⟨v_t110, N_t110, rfl, hO_t110, hC⟩
      replace hH := HS.call0 hH hC
      clear hC
      replace hS := hH.pick [2, 3, 4, 5, 6, 7, 8, 9, 10, 11, 12, 13, 14] (Hs' := [_, _, _, _, _, _, _, _, _, _, _, _, _]) rfl
      refine ⟨fun _ _ => hS, ?_⟩
      intro a hA
      refine a1 hA 7 255 rfl (lo_call fn43 rfl (refright22_any (hg.mono0 hH) _ _ (hH.rd hpv) (by first | omega | (simp; done) | (simp; omega)))) ?_
      rintro _ w ⟨v_t113, N_t113, rfl, hO_t113, hC⟩
      replace hH := HS.call0 hH hC
      clear hC
      replace hS := hH.pick [3, 4, 5, 6, 7, 8, 9, 10, 11, 12, 13, 14, 15] (Hs' := [_, _, _, _, _, _, _, _, _, _, _, _, _]) rfl
      refine ⟨fun _ _ => hS, ?_⟩
      intro a hA
      refine a1 hA 8 511 rfl (lo_call fn16 rfl (same_any _ _ _ _ (Own.rd0 hO_t110 hH 1 rfl) (Own.rd0 hO_t113 hH 0 rfl) (by first | omega | (simp; done) | (simp; omega)) (by first | omega | (simp; done) | (simp; omega)))) ?_
      rintro _ w ⟨rfl, hC⟩
      replace hH := HS.call0 hH hC
      clear hC
      replace hS := hH.pick [3, 4, 5, 6, 7, 8, 9, 10, 11, 12, 13, 14, 15] (Hs' := [_, _, _, _, _, _, _, _, _, _, _, _, _]) rfl
      refine ⟨fun _ _ => hS, ?_⟩
      intro a hA
      replace hA := hA.decT (by first | rfl | omega | assumption | (simp; done) | (simp [*]; done))
      refine p0 hA 9 1023 rfl (fun w => (q_move rfl)) fun a hA => ?_
      refine g1 hA 10 2047 rfl rfl rfl (lo_call fn35 rfl (awake22_any (hg.mono0 hH))) ?_
      rintro _ w ⟨rfl, hC⟩
      replace hH := HS.call0 hH hC
      clear hC
      replace hS := hH.pick [3, 4, 5, 6, 7, 8, 9, 10, 11, 12, 13, 14, 15] (Hs' := [_, _, _, _, _, _, _, _, _, _, _, _, _]) rfl
      refine ⟨fun _ _ => hS, ?_⟩
      intro a hA
      refine p0 hA 11 4095 rfl (fun w => (q_pick_t rfl rfl)) fun a hA => ?_
      refine p0 hA 12 8191 rfl (fun w => (q_assign rfl)) fun a hA => ?_
      refine a_end (by kernel_rfl) ?_ _
      refine hK84 _ _ ?_
      clear hK84
      replace hA := hA.s1 6
      refine wp_ret ?_
      refine post_ret hA (res_1 rfl hA rfl) ?_
      replace hH := hH.pick [] (Hs' := []) rfl
      exact ⟨_, rfl, rfl, hH⟩

end Go.Proofs.YtnnkgdijaekcfaaDoor
