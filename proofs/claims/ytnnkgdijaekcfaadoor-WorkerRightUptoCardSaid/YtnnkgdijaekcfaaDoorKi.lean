/- Layer 22 (worker): the law WorkerRight. -/
import Derived.Test.YtnnkgdijaekcfaaDoorKh
namespace Go.Proofs.YtnnkgdijaekcfaaDoor
open Go
set_option linter.unusedVariables false
set_option linter.unusedSimpArgs false
set_option maxRecDepth 100000

theorem dec20_h {w0 : World} (v : Value) (l : Bs) (hr : By [] w0 v l) (hl : l.length ≤ 1048576) (n h : Int) {D : (Bs × Bs × Nat × List Bs × List Bs) × Nat} (hD : D = decR n h l) : Calls Tryd.prog 31 #[v, I n, I h] w0 (Ret fun r w' => ∃ a b u x N0 N1 N2 N3, r = .tuple #[.agg #[a, b, I D.1.2.2.1, u, x], I D.2] ∧ Ow B8 5 a D.1.1 N0 ∧ Ow B8 5 b D.1.2.1 N1 ∧ OwD 24 u D.1.2.2.2.1 N2 ∧ OwD 24 x D.1.2.2.2.2 N3 ∧ HS [] w0 w' [N0, N1, N2, N3]) := by
  rw [hD]
  exact dec20_any v l hr hl n h
theorem dec20_k {w0 : World} (v : Value) (l : Bs) (hr : By [] w0 v l) (hl : l.length ≤ 1048576) (n h : Int) {U0 V0 : Bs} {i0 : Nat} {A0 B0 : List Bs} (hD : ((U0, V0, i0, A0, B0), 0) = decR n h l) : Calls Tryd.prog 31 #[v, I n, I h] w0 (Ret fun r w' => ∃ a b u x N0 N1 N2 N3, r = .tuple #[.agg #[a, b, I i0, u, x], I 0] ∧ Ow B8 5 a U0 N0 ∧ Ow B8 5 b V0 N1 ∧ OwD 24 u A0 N2 ∧ OwD 24 x B0 N3 ∧ HS [] w0 w' [N0, N1, N2, N3]) := dec20_h v l hr hl n h hD
set_option maxHeartbeats 1000000 in
theorem workerRight_any {w0 : World} {lv : Nat} (hg : Gl lv w0) (cs : List Int) (hcs : cs.length = 7) (s : Bs) (hsd : s.length = 32) (key : Bs) (hkey : key.length = 32) (jj aa ii : Int) (tv pv : Value) (T Pl : Bs) (htv : By [] w0 tv T) (hpv : By [] w0 pv Pl) (hlT : T.length ≤ 1048576) (hlP : Pl.length ≤ 1048576) (nn : Bs) (hnn : nn.length = 32) :
    Calls Tryd.prog 13 #[(.agg ((cs).map I).toArray), (.agg ((s).map B8).toArray), (.agg ((key).map B8).toArray), (.agg (ordC jj aa ii tv pv nn).toArray)] w0 (Ret fun r w' => r = .bool true ∧ HS [] w0 w' []) := by
 have hH := HS.start w0
 refine start (n := 125) (E := [(0, _), (1, _), (2, _), (3, _)]) Tryd.func13 rfl rfl rfl (args_look rfl) ?_
 intro a hA
 refine wp_seq_k fun K1 hK1 => ?_
 refine wp_region_lit ?_
 refine sl hA (lo_boxA hH rfl) rfl ?_
 clear hH; rintro _ w ⟨b_t4, rfl, hH⟩ a hA
 refine sl hA (lo_boxA hH rfl) rfl ?_
 clear hH; rintro _ w ⟨b_t5, rfl, hH⟩ a hA
 refine sl hA (lo_boxA hH rfl) rfl ?_
 clear hH; rintro _ w ⟨b_t6, rfl, hH⟩ a hA
 refine sl hA (lo_boxA hH rfl) rfl ?_
 clear hH; rintro _ w ⟨b_t7, rfl, hH⟩ a hA
 refine asg hA fun a hA => ?_
 refine wpList_nil ?_
 refine hK1 _ _ ?_
 clear hK1
 replace hA := hA.s5 8 7 6 5 4
 refine wp_seq_k fun K2 hK2 => ?_
 refine wp_seq_k fun K3 hK3 => ?_
 refine any_go mixed (fun _ => true) hH ?_
 clear hH; intro w hH
 have hS := hH
 refine any_l 24 ?_
 refine r0 hA 0 1 rfl hS (fun w hH => (q_loadW hH 3 rfl Tryd.underlying78 rfl ti78 rfl (by first | omega | (simp; done) | (simp; omega) | (rw [List.length_map]; assumption) | assumption | rfl | (simp [*]; done) | (simp [*]; omega)))) fun a hA => ?_
 refine a1 hA 1 3 rfl (lo_call fn44 rfl (heavy22_any _ (by assumption))) ?_
 rintro _ w ⟨rfl, hC⟩
 replace hH := HS.call0 hH hC
 clear hC
 replace hS := hH.pick [0, 1, 2, 3] (Hs' := [_, _, _, _]) rfl
 refine ⟨fun _ _ => hS, ?_⟩
 intro a hA
 refine hA.spl (fun hs19 hA => ?_) (fun hs19 hA => ?_)
 ·skip
  refine p0 hA 2 7 rfl (fun w => (q_move rfl)) fun a hA => ?_
  refine ps hA 3 15 rfl rfl rfl fun a hA => ?_
  refine ps hA 4 31 rfl rfl rfl fun a hA => ?_
  refine p0 hA 5 63 rfl (fun w => (q_pick_t rfl rfl)) fun a hA => ?_
  refine p0 hA 6 127 rfl (fun w => (q_move rfl)) fun a hA => ?_
  refine ps hA 7 255 rfl rfl rfl fun a hA => ?_
  refine ps hA 8 511 rfl rfl rfl fun a hA => ?_
  refine ps hA 9 1023 rfl rfl rfl fun a hA => ?_
  refine p0 hA 10 2047 rfl (fun w => (q_pick_t rfl rfl)) fun a hA => ?_
  refine p0 hA 11 4095 rfl (fun w => (q_move rfl)) fun a hA => ?_
  refine ps hA 12 8191 rfl rfl rfl fun a hA => ?_
  refine ps hA 13 16383 rfl rfl rfl fun a hA => ?_
  refine ps hA 14 32767 rfl rfl rfl fun a hA => ?_
  refine p0 hA 15 65535 rfl (fun w => (q_pick_t rfl rfl)) fun a hA => ?_
  refine p0 hA 16 131071 rfl (fun w => (q_move rfl)) fun a hA => ?_
  refine ps hA 17 262143 rfl rfl rfl fun a hA => ?_
  refine ps hA 18 524287 rfl rfl rfl fun a hA => ?_
  refine ps hA 19 1048575 rfl rfl rfl fun a hA => ?_
  refine ps hA 20 2097151 rfl rfl rfl fun a hA => ?_
  refine ps hA 21 4194303 rfl rfl rfl fun a hA => ?_
  refine ps hA 22 8388607 rfl rfl rfl fun a hA => ?_
  refine p0 hA 23 16777215 rfl (fun w => (q_pick_t rfl rfl)) fun a hA => ?_
  refine a_end (by kernel_rfl) ?_ _
  refine hK3 _ _ ?_
  clear hK3
  replace hA := hA.s6 41 8 7 6 5 4
  refine cond_t hA rfl ?_
  refine wp_seq_k fun K4 hK4 => ?_
  refine wp_region_lit ?_
  refine sl hA (lo_call fn35 rfl (awake22_any (hg.mono0 hH))) rfl ?_
  rintro _ w ⟨rfl, hC⟩ a hA
  replace hH := HS.call0 hH hC
  clear hC
  refine asg hA fun a hA => ?_
  refine wpList_nil ?_
  refine hK4 _ _ ?_
  clear hK4
  replace hA := hA.s5 8 7 6 5 4
  refine wp_ret ?_
  refine then_ret ?_
  refine post_ret hA (res_1 rfl hA rfl) ?_
  replace hH := hH.pick [] (Hs' := []) rfl
  exact ⟨_, rfl, rfl, hH⟩
 ·skip
  refine p0 hA 2 7 rfl (fun w => (q_move rfl)) fun a hA => ?_
  refine rg hA 3 15 rfl rfl rfl hS (fun w hH => (q_loadW hH 0 rfl Tryd.underlying64 rfl ti64 rfl (by first | rfl | exact ordC_length hnn))) fun a hA => ?_
  refine g1 hA 4 31 rfl rfl rfl (lo_call fn34 rfl (great22_any _ _ _ _ _ _ _ (hH.rd htv) (hH.rd hpv) (by first | omega | (simp; done) | (simp; omega)) (by first | omega | (simp; done) | (simp; omega)) _ (by first | exact hkey | exact hnn | exact hDn | exact hn2 | (first | assumption | (rw [List.length_map]; assumption) | rfl | exact sha_length _ | (simp; done) | (simp [*]; done) | omega)))) ?_
  rintro _ w ⟨rfl, hC⟩
  replace hH := HS.call0 hH hC
  clear hC
  replace hS := hH.pick [0, 1, 2, 3] (Hs' := [_, _, _, _]) rfl
  refine ⟨fun _ _ => hS, ?_⟩
  intro a hA
  refine hA.spl (fun hs22 hA => ?_) (fun hs22 hA => ?_)
  ·skip
   refine p0 hA 5 63 rfl (fun w => (q_pick_f rfl rfl)) fun a hA => ?_
   refine p0 hA 6 127 rfl (fun w => (q_move rfl)) fun a hA => ?_
   refine ps hA 7 255 rfl rfl rfl fun a hA => ?_
   refine ps hA 8 511 rfl rfl rfl fun a hA => ?_
   refine ps hA 9 1023 rfl rfl rfl fun a hA => ?_
   refine p0 hA 10 2047 rfl (fun w => (q_pick_t rfl rfl)) fun a hA => ?_
   refine p0 hA 11 4095 rfl (fun w => (q_move rfl)) fun a hA => ?_
   refine ps hA 12 8191 rfl rfl rfl fun a hA => ?_
   refine ps hA 13 16383 rfl rfl rfl fun a hA => ?_
   refine ps hA 14 32767 rfl rfl rfl fun a hA => ?_
   refine p0 hA 15 65535 rfl (fun w => (q_pick_t rfl rfl)) fun a hA => ?_
   refine p0 hA 16 131071 rfl (fun w => (q_move rfl)) fun a hA => ?_
   refine ps hA 17 262143 rfl rfl rfl fun a hA => ?_
   refine ps hA 18 524287 rfl rfl rfl fun a hA => ?_
   refine ps hA 19 1048575 rfl rfl rfl fun a hA => ?_
   refine ps hA 20 2097151 rfl rfl rfl fun a hA => ?_
   refine ps hA 21 4194303 rfl rfl rfl fun a hA => ?_
   refine ps hA 22 8388607 rfl rfl rfl fun a hA => ?_
   refine p0 hA 23 16777215 rfl (fun w => (q_pick_t rfl rfl)) fun a hA => ?_
   refine a_end (by kernel_rfl) ?_ _
   refine hK3 _ _ ?_
   clear hK3
   replace hA := hA.s6 41 8 7 6 5 4
   refine cond_t hA rfl ?_
   refine wp_seq_k fun K5 hK5 => ?_
   refine wp_region_lit ?_
   refine sl hA (lo_call fn35 rfl (awake22_any (hg.mono0 hH))) rfl ?_
   rintro _ w ⟨rfl, hC⟩ a hA
   replace hH := HS.call0 hH hC
   clear hC
   refine asg hA fun a hA => ?_
   refine wpList_nil ?_
   refine hK5 _ _ ?_
   clear hK5
   replace hA := hA.s5 8 7 6 5 4
   refine wp_ret ?_
   refine then_ret ?_
   refine post_ret hA (res_1 rfl hA rfl) ?_
   replace hH := hH.pick [] (Hs' := []) rfl
   exact ⟨_, rfl, rfl, hH⟩
  ·skip
   refine p0 hA 5 63 rfl (fun w => (q_pick_f rfl rfl)) fun a hA => ?_
   refine p0 hA 6 127 rfl (fun w => (q_move rfl)) fun a hA => ?_
   refine rg hA 7 255 rfl rfl rfl hS (fun w hH => (q_loadW hH 3 rfl Tryd.underlying78 rfl ti78 rfl (by first | omega | (simp; done) | (simp; omega) | (rw [List.length_map]; assumption) | assumption | rfl | (simp [*]; done) | (simp [*]; omega)))) fun a hA => ?_
   refine g1 hA 8 511 rfl rfl rfl (lo_call fn46 rfl (refright21_any _ (by assumption))) ?_
   rintro _ w ⟨rfl, hC⟩
   replace hH := HS.call0 hH hC
   clear hC
   replace hS := hH.pick [0, 1, 2, 3] (Hs' := [_, _, _, _]) rfl
   refine ⟨fun _ _ => hS, ?_⟩
   intro a hA
   refine hA.spl (fun hs26 hA => ?_) (fun hs26 hA => ?_)
   ·skip
    have hC : RightC cs := by assumption
    obtain ⟨⟨c1, c2⟩, ⟨c3, c4⟩, ⟨c5, c6⟩, ⟨c7, c8⟩, ⟨c9, c10⟩, ⟨c11, c12⟩, ⟨c13, c14⟩⟩ := id hC
    obtain ⟨n, hn3⟩ : ∃ n : Nat, cs.getD 3 0 = n := ⟨(cs.getD 3 0).toNat, by omega⟩
    obtain ⟨h, hn2⟩ : ∃ h : Nat, cs.getD 2 0 = h := ⟨(cs.getD 2 0).toNat, by omega⟩
    have hR : R7 (n : Int) (h : Int) := by unfold R7 R5; omega
    have hh6 : h ≤ 6 := by omega
    have h64 := pow_le64 hh6
    have hp0 : 0 < 2 ^ h := Nat.pow_pos (by decide)
    refine pg hA 9 1023 rfl rfl rfl (fun w => (q_not rfl)) fun a hA => ?_
    refine p0 hA 10 2047 rfl (fun w => (q_pick_f rfl rfl)) fun a hA => ?_
    refine p0 hA 11 4095 rfl (fun w => (q_move rfl)) fun a hA => ?_
    refine rg hA 12 8191 rfl rfl rfl hS (fun w hH => (q_loadW hH 0 rfl Tryd.underlying64 rfl ti64 rfl (by first | rfl | exact ordC_length hnn))) fun a hA => ?_
    refine g1 hA 13 16383 rfl rfl rfl (lo_call fn52 rfl (refmay22_any _ _ _ _ _ _ _ (hH.rd htv) (hH.rd hpv) (by first | omega | (simp; done) | (simp; omega)) (by first | omega | (simp; done) | (simp; omega)) _ (by first | exact hkey | exact hnn | exact hDn | exact hn2 | (first | assumption | (rw [List.length_map]; assumption) | rfl | exact sha_length _ | (simp; done) | (simp [*]; done) | omega)))) ?_
    rintro _ w ⟨rfl, hC⟩
    replace hH := HS.call0 hH hC
    clear hC
    replace hS := hH.pick [0, 1, 2, 3] (Hs' := [_, _, _, _]) rfl
    refine ⟨fun _ _ => hS, ?_⟩
    intro a hA
    refine hA.spl (fun hs31 hA => ?_) (fun hs31 hA => ?_)
    ·skip
     have hM : MayO jj aa ii T Pl := by assumption
     obtain ⟨⟨y1, y2⟩, ⟨y3, y4⟩, ⟨y5, y6⟩, y7, y8⟩ := id hM
     obtain ⟨j, rfl⟩ : ∃ j : Nat, jj = j := ⟨jj.toNat, by omega⟩
     obtain ⟨q, rfl⟩ : ∃ j : Nat, aa = j := ⟨aa.toNat, by omega⟩
     obtain ⟨x, rfl⟩ : ∃ j : Nat, ii = j := ⟨ii.toNat, by omega⟩
     obtain ⟨E, hE⟩ : ∃ E, E = encO key j q x T Pl nn := ⟨_, rfl⟩
     have hEl := encO_len key j q x T Pl hnn
     have hE2 : E.2 = 0 := by rw [hE, encO_ok hM]
     have hbk := decO_back (key := key) (n := nn) hM hnn
     rw [← hE] at hbk hEl
     simp only [Int.toNat_natCast] at hbk
     obtain ⟨D, hDv⟩ : ∃ D : (Nat × Nat × Nat × Bs × Bs × Bs) × Nat, D = ((j, q, x, T, Pl, nn), 0) := ⟨_, rfl⟩
     have hD : D = decO key E.1 := by rw [hbk, hDv]
     have hD2 : D.2 = 0 := by rw [hDv]
     have hDi : D.1.2.2.1 = x := by rw [hDv]
     have hr8 := rightV_length Pl
     obtain ⟨TX, hTX⟩ : ∃ l, l = (txV (max (j : Int) 0).toNat (max (q : Int) 0).toNat (rightV Pl) nn) := ⟨_, rfl⟩
     refine pg hA 14 32767 rfl rfl rfl (fun w => (q_not rfl)) fun a hA => ?_
     refine p0 hA 15 65535 rfl (fun w => (q_pick_f rfl rfl)) fun a hA => ?_
     refine p0 hA 16 131071 rfl (fun w => (q_move rfl)) fun a hA => ?_
     refine pg hA 17 262143 rfl rfl rfl (fun w => (q_fld 2 Tryd.underlying64 rfl rfl ti3 rfl)) fun a hA => ?_
     refine rg hA 18 524287 rfl rfl rfl hS (fun w hH => (q_loadB hH 0 rfl (List.mem_singleton.2 rfl) Tryd.underlying3 rfl rfl rfl)) fun a hA => ?_
     refine pg hA 19 1048575 rfl rfl rfl (fun w => (q_fld 2 Tryd.underlying78 rfl rfl ti3 rfl)) fun a hA => ?_
     refine rg hA 20 2097151 rfl rfl rfl hS (fun w hH => (q_loadBm ((0 : Int)) hH 3 rfl Tryd.underlying3 rfl rfl (by first | omega | (simp; done) | (simp; omega) | (rw [List.length_map]; assumption) | assumption | rfl | (simp [*]; done) | (simp [*]; omega)))) fun a hA => ?_
     rw [hn2] at hA
     refine pg hA 21 4194303 rfl rfl rfl (fun w => (q_shlI (m := 1) (n := h) ((2 ^ h : Nat) : Int) rfl rfl (by omega) (by push_cast; rfl) (by omega))) fun a hA => ?_
     rw [Int.one_mul] at hA
     refine pg hA 22 8388607 rfl rfl rfl (fun w => (q_geqI rfl rfl)) fun a hA => ?_
     refine hA.spl (fun hs40 hA => ?_) (fun hs40 hA => ?_)
     ·skip
      refine p0 hA 23 16777215 rfl (fun w => (q_pick_f rfl rfl)) fun a hA => ?_
      refine a_end (by kernel_rfl) ?_ _
      refine hK3 _ _ ?_
      clear hK3
      replace hA := hA.s6 41 8 7 6 5 4
      refine cond_t hA rfl ?_
      refine wp_seq_k fun K6 hK6 => ?_
      refine wp_region_lit ?_
      refine sl hA (lo_call fn35 rfl (awake22_any (hg.mono0 hH))) rfl ?_
      rintro _ w ⟨rfl, hC⟩ a hA
      replace hH := HS.call0 hH hC
      clear hC
      refine asg hA fun a hA => ?_
      refine wpList_nil ?_
      refine hK6 _ _ ?_
      clear hK6
      replace hA := hA.s5 8 7 6 5 4
      refine wp_ret ?_
      refine then_ret ?_
      refine post_ret hA (res_1 rfl hA rfl) ?_
      replace hH := hH.pick [] (Hs' := []) rfl
      exact ⟨_, rfl, rfl, hH⟩
     ·skip
      have hix : x < 2 ^ h := by omega
      obtain ⟨OT, hOT⟩ : ∃ z, z = otsK s n x TX := ⟨_, rfl⟩
      obtain ⟨PT, hPT⟩ : ∃ z, z = pthK s n h x := ⟨_, rfl⟩
      have hdo : Dg OT := by rw [hOT]; exact otsK_dg s n x TX
      have hdp : Dg PT := by rw [hPT]; exact pthK_dg s n hix
      have hlo : OT.length = 2 * n := by rw [hOT]; exact otsK_length s n x TX
      have hlp : PT.length = h := by rw [hPT]; exact pthK_length s n h x
      have hDe := decR_back (u := T) (v := rightV Pl) (i := x) hR y7 (by omega) hix hdo hdp hlo hlp
      obtain ⟨A, hA1⟩ : ∃ A, A = encR T (rightV Pl) (encK x OT PT) := ⟨_, rfl⟩
      have hel := encK_len (i := (x : Int)) (by omega) hdo hdp
      have hrl := encR_len (u := T) (v := rightV Pl) (E := encK x OT PT) (by omega) (by omega) (by omega)
      rw [← hA1] at hDe hrl
      have hts9 : ∀ i, ([(j : Int), (q : Int), 0, (x : Int), 0, 0] : List Int).getD i 0 ≤ 9223372036854775807 := ts9_of (by simp; omega)
      have htxl := txV_len (j := (max (j : Int) 0).toNat) (a := (max (q : Int) 0).toNat) (v := rightV Pl) (nonce := nn) (by omega) (by omega) (by omega) hnn
      refine p0 hA 23 16777215 rfl (fun w => (q_pick_f rfl rfl)) fun a hA => ?_
      refine a_end (by kernel_rfl) ?_ _
      refine hK3 _ _ ?_
      clear hK3
      replace hA := hA.s6 41 8 7 6 5 4
      refine cond_f hA rfl ?_
      refine wp_skip ?_
      refine hK2 _ _ ?_
      clear hK2
      replace hA := hA.s5 8 7 6 5 4
      refine wp_seq_k fun K7 hK7 => ?_
      refine wp_region_lit ?_
      refine sq hA (q_loadW hH 3 rfl Tryd.underlying78 rfl ti78 rfl (by first | omega | (simp; done) | (simp; omega) | (rw [List.length_map]; assumption) | assumption | rfl | (simp [*]; done) | (simp [*]; omega))) rfl fun a hA => ?_
      refine sq hA (q_loadW hH 2 rfl Tryd.underlying24 rfl ti24 rfl (by first | omega | (simp; done) | (simp; omega) | (rw [List.length_map]; assumption) | assumption | rfl | (simp [*]; done) | (simp [*]; omega))) rfl fun a hA => ?_
      refine sq hA (q_loadW hH 1 rfl Tryd.underlying24 rfl ti24 rfl (by first | omega | (simp; done) | (simp; omega) | (rw [List.length_map]; assumption) | assumption | rfl | (simp [*]; done) | (simp [*]; omega))) rfl fun a hA => ?_
      refine sl hA (lo_call fn47 rfl (neww_any (hg.mono0 hH) cs hcs hC s hsd key hkey n h hn3 hn2 hR)) rfl ?_
      rintro _ w ⟨b_w, b_k, b_s, b_m, v_l, N_l, rfl, hO_l, hC⟩ a hA
      replace hH := HS.call0 hH hC
      clear hC
      refine mv hA fun a hA => ?_
      refine sq hA (q_extract rfl rfl) rfl fun a hA => ?_
      refine sq hA (q_extract rfl rfl) rfl fun a hA => ?_
      refine asg hA fun a hA => ?_
      refine asg hA fun a hA => ?_
      refine wpList_nil ?_
      refine hK7 _ _ ?_
      clear hK7
      replace hA := hA.s6 10 9 8 7 6 4
      refine wp_seq_k fun K8 hK8 => ?_
      refine any_go mixed (fun _ => true) hH ?_
      clear hH; intro w hH
      have hS := hH
      refine any_l 9 ?_
      refine r0 hA 0 1 rfl hS (fun w hH => (q_loadW hH 6 rfl Tryd.underlying24 rfl ti24 rfl (by first | omega | (simp; done) | (simp; omega) | (rw [List.length_map]; assumption) | assumption | rfl | (simp [*]; done) | (simp [*]; omega)))) fun a hA => ?_
      refine r0 hA 1 3 rfl hS (fun w hH => (q_loadW hH 5 rfl Tryd.underlying64 rfl ti64 rfl (by first | rfl | exact ordC_length hnn))) fun a hA => ?_
      refine a1 hA 2 7 rfl (lo_call fn37 rfl (own22_any _ _ _ _ _ _ _ (hH.rd htv) (hH.rd hpv) (by first | omega | (simp; done) | (simp; omega)) (by first | omega | (simp; done) | (simp; omega)) _ (by first | exact hkey | exact hnn | exact hDn | exact hn2 | (first | assumption | (rw [List.length_map]; assumption) | rfl | exact sha_length _ | (simp; done) | (simp [*]; done) | omega)))) ?_
      rintro _ w ⟨v_at53, v_bt53, N_at53, N_bt53, rfl, hO_at53, hO_bt53, hC⟩
      replace hH := HS.call0 hH hC
      clear hC
      replace hS := hH.pick [2, 3, 4, 5, 6, 7, 8, 9, 10] (Hs' := [_, _, _, _, _, _, _, _, _]) rfl
      refine ⟨fun _ _ => hS, ?_⟩
      intro a hA
      refine a1 hA 3 15 rfl (lo_call fn36 rfl (encw_g (hg.mono0 hH) _ (by first | exact hkey | exact hnn | exact hDn | exact hn2 | (first | assumption | (rw [List.length_map]; assumption) | rfl | exact sha_length _ | (simp; done) | (simp [*]; done) | omega)) _ _ _ _ _ _ _ (Own.rd0 hO_at53 hH 0 rfl) (Own.rd0 hO_bt53 hH 1 rfl) (by first | omega | (simp; done) | (simp; omega)) (by first | omega | (simp; done) | (simp; omega)) _ (by first | exact hkey | exact hnn | exact hDn | exact hn2 | (first | assumption | (rw [List.length_map]; assumption) | rfl | exact sha_length _ | (simp; done) | (simp [*]; done) | omega)) hE)) ?_
      rintro _ w ⟨v_t54, N_t54, rfl, hO_t54, hC⟩
      replace hH := HS.call0 hH hC
      clear hC
      replace hS := hH.pick [3, 4, 5, 6, 7, 8, 9, 10, 11] (Hs' := [_, _, _, _, _, _, _, _, _]) rfl
      refine ⟨fun _ _ => hS, ?_⟩
      intro a hA
      refine p0 hA 4 31 rfl (fun w => (q_move rfl)) fun a hA => ?_
      refine p0 hA 5 63 rfl (fun w => (q_extract rfl rfl)) fun a hA => ?_
      refine p0 hA 6 127 rfl (fun w => (q_extract rfl rfl)) fun a hA => ?_
      refine p0 hA 7 255 rfl (fun w => (q_assign rfl)) fun a hA => ?_
      refine p0 hA 8 511 rfl (fun w => (q_assign rfl)) fun a hA => ?_
      refine a_end (by kernel_rfl) ?_ _
      refine hK8 _ _ ?_
      clear hK8
      replace hA := hA.s7 12 11 10 9 8 7 4
      refine wp_seq_k fun K9 hK9 => ?_
      refine wp_region_lit ?_
      refine mv hA fun a hA => ?_
      refine mv hA fun a hA => ?_
      replace hH := hH.pick [3, 4, 7, 0, 1, 2, 5, 6, 8, 9, 10, 11] (Hs' := [_, _, _, _, _, _, _, _, _, _, _, _]) rfl
      refine sl hA (lo_call fn48 rfl (hear_new (hg.mono0 hH) key hkey s hsd n h hR v_l b_w b_k b_s b_m (Gl.ngs (Ns1 := [_, _, _]) hg NG.nil hH) (HS.boxDM (Ns1 := [_, _, _]) hH 3 rfl hsd) (Own.rdM hO_l (Ns1 := [_, _, _]) hH 4 rfl) 0 (by omega) [] _ _ (Own.rdM hO_t54 (Ns1 := [_, _, _]) hH 0 rfl) (by first | omega | (simp; done) | (simp; omega)) D hD hD2 rfl (by omega) (by omega) (HS.handed (Ns1 := [_, _, _]) hH))) rfl ?_
      rintro _ w ⟨v_t60, v_ot60, v_at60, N_t60, N_ot60, N_at60, rfl, hO_t60, hO_ot60, hO_at60, hC⟩ a hA
      replace hH := HS.call (Ns1 := [_, _, _]) hH hC
      clear hC
      replace hO_t60 : Ow B8 5 v_t60 A N_t60 := by rw [hA1, hOT, hPT, hTX]; have e := hO_t60; rw [hDv] at e; exact e
      refine mv hA fun a hA => ?_
      refine sq hA (q_extract rfl rfl) rfl fun a hA => ?_
      refine sq hA (q_extract rfl rfl) rfl fun a hA => ?_
      refine asg hA fun a hA => ?_
      refine asg hA fun a hA => ?_
      refine wpList_nil ?_
      refine hK9 _ _ ?_
      clear hK9
      replace hA := hA.s8 14 13 12 10 9 8 7 4
      refine wp_seq_k fun K10 hK10 => ?_
      refine wp_region_lit ?_
      refine mv hA fun a hA => ?_
      refine sq hA (q_fld 3 Tryd.underlying78 rfl rfl ti3 rfl) rfl fun a hA => ?_
      refine sq hA (q_loadBm ((0 : Int)) hH 14 rfl Tryd.underlying3 rfl rfl (by first | omega | (simp; done) | (simp; omega) | (rw [List.length_map]; assumption) | assumption | rfl | (simp [*]; done) | (simp [*]; omega))) rfl fun a hA => ?_
      rw [hn3] at hA
      refine sq hA (q_fld 2 Tryd.underlying78 rfl rfl ti3 rfl) rfl fun a hA => ?_
      refine sq hA (q_loadBm ((0 : Int)) hH 14 rfl Tryd.underlying3 rfl rfl (by first | omega | (simp; done) | (simp; omega) | (rw [List.length_map]; assumption) | assumption | rfl | (simp [*]; done) | (simp [*]; omega))) rfl fun a hA => ?_
      rw [hn2] at hA
      refine sl hA (lo_call fn31 rfl (dec20_k _ _ (Own.rd0 hO_t60 hH 3 rfl) (by first | omega | (simp; done) | (simp; omega)) _ _ hDe.symm)) rfl ?_
      rintro _ w ⟨v_at69, v_bt69, v_ot69, v_pt69, N_at69, N_bt69, N_ot69, N_pt69, rfl, hO_at69, hO_bt69, hO_ot69, hO_pt69, hC⟩ a hA
      replace hH := HS.call0 hH hC
      clear hC
      refine mv hA fun a hA => ?_
      refine sq hA (q_extract rfl rfl) rfl fun a hA => ?_
      refine sq hA (q_extract rfl rfl) rfl fun a hA => ?_
      refine sl hA (lo_allocA hH ti29) rfl ?_
      clear hH; rintro _ w ⟨b_t15, rfl, hH⟩ a hA
      refine s0 hA (lo_storeAm hH ti29 rfl rfl (rfl) (rfl) (ones_cons (Own.one hO_at69) (ones_cons (Own.one hO_bt69) (ones_cons rfl (ones_cons (Own.one hO_ot69) (ones_cons (Own.one hO_pt69) ones_nil)))))) ?_
      clear hH; rintro _ w hH
      refine asg hA fun a hA => ?_
      refine wpList_nil ?_
      refine hK10 _ _ ?_
      clear hK10
      replace hA := hA.s9 16 15 14 12 10 9 8 7 4
      refine wp_seq_k fun K11 hK11 => ?_
      refine wp_seq_k fun K12 hK12 => ?_
      refine wp_region_lit ?_
      refine mv hA fun a hA => ?_
      refine sq hA (q_neqI (n := 0) rfl rfl) rfl fun a hA => ?_
      replace hA := hA.decF (by exact fun h => h rfl)
      refine mv hA fun a hA => ?_
      refine gq hA rfl rfl (q_move rfl) rfl fun a hA => ?_
      refine gq hA rfl rfl (q_neqI (n := 0) rfl rfl) rfl fun a hA => ?_
      replace hA := hA.decF (by omega)
      refine sq hA (q_pick_f rfl rfl) rfl fun a hA => ?_
      refine mv hA fun a hA => ?_
      refine gq hA rfl rfl (q_move rfl) rfl fun a hA => ?_
      refine gq hA rfl rfl (q_neqI (n := 0) rfl rfl) rfl fun a hA => ?_
      replace hA := hA.decF (by exact fun h => h rfl)
      refine sq hA (q_pick_f rfl rfl) rfl fun a hA => ?_
      refine mv hA fun a hA => ?_
      refine gq hA rfl rfl (q_move rfl) rfl fun a hA => ?_
      refine gq hA rfl rfl (q_neqI (n := 0) rfl rfl) rfl fun a hA => ?_
      replace hA := hA.decF (by exact fun h => h rfl)
      refine sq hA (q_pick_f rfl rfl) rfl fun a hA => ?_
      refine wpList_nil ?_
      refine hK12 _ _ ?_
      clear hK12
      replace hA := hA.s6 85 15 9 8 7 4
      refine cond_f hA rfl ?_
      refine wp_skip ?_
      refine hK11 _ _ ?_
      clear hK11
      replace hA := hA.s5 15 9 8 7 4
      refine wp_seq_k fun K13 hK13 => ?_
      refine wp_region_lit ?_
      refine sq hA (q_fld 0 Tryd.underlying64 rfl rfl ti3 rfl) rfl fun a hA => ?_
      refine sq hA (q_loadB hH 16 rfl (List.mem_singleton.2 rfl) Tryd.underlying3 rfl rfl rfl) rfl fun a hA => ?_
      refine sq hA (q_fld 1 Tryd.underlying64 rfl rfl ti3 rfl) rfl fun a hA => ?_
      refine sq hA (q_loadB hH 16 rfl (List.mem_singleton.2 rfl) Tryd.underlying3 rfl rfl rfl) rfl fun a hA => ?_
      refine sq hA (q_fld 2 Tryd.underlying64 rfl rfl ti3 rfl) rfl fun a hA => ?_
      refine sq hA (q_loadB hH 16 rfl (List.mem_singleton.2 rfl) Tryd.underlying3 rfl rfl rfl) rfl fun a hA => ?_
      refine sq hA (q_build (v := .agg (([(j : Int), (q : Int), 0, (x : Int), 0, 0] : List Int).map I).toArray) (vs := [(0, I j), (1, I q), (3, I x)]) rfl (fun w => run_build w _ _ _ (by kernel_rfl))) rfl fun a hA => ?_
      refine sl hA (lo_allocA hH ti39) rfl ?_
      clear hH; rintro _ w ⟨b_t17, rfl, hH⟩ a hA
      replace hH : HS _ _ _ ([(b_t17, Obj.cells ((List.replicate 6 (0 : Int)).map I).toArray 39 (0, 0))] :: _) := hH
      refine s0 hA (lo_storeAm hH ti39 rfl rfl (by first | (simp; done) | (rw [List.length_map]; assumption) | rfl | (simp [*]; done)) (by first | (simp; done) | (rw [List.length_map]; assumption) | rfl | (simp [*]; done)) (one_I _)) ?_
      clear hH; rintro _ w hH
      refine wpList_nil ?_
      refine hK13 _ _ ?_
      clear hK13
      replace hA := hA.s6 17 15 9 8 7 4
      refine wp_seq_k fun K14 hK14 => ?_
      refine any_goI mixed [0, 1, 2, 3, 4, 5, 9, 10, 11, 12, 13, 14, 15, 16, 17, 18, 19, 20] (Hs' := [_, _, _, _, _, _, _, _, _, _, _, _, _, _, _, _, _, _]) rfl (fun _ => true) hH ?_
      clear hH; intro w hH hS
      refine any_l 33 ?_
      refine p0 hA 0 1 rfl (fun w => (q_fld 0 Tryd.underlying29 rfl rfl ti22 rfl)) fun a hA => ?_
      refine r0 hA 1 3 rfl hS (fun w hH => (q_loadB hH 1 rfl (List.mem_singleton.2 rfl) Tryd.underlying22 rfl rfl rfl)) fun a hA => ?_
      refine p0 hA 2 7 rfl (fun w => (q_fld 3 Tryd.underlying64 rfl rfl ti22 rfl)) fun a hA => ?_
      refine r0 hA 3 15 rfl hS (fun w hH => (q_loadB hH 14 rfl (List.mem_singleton.2 rfl) Tryd.underlying22 rfl rfl rfl)) fun a hA => ?_
      refine a1 hA 4 31 rfl (lo_call fn16 rfl (same_any _ _ _ _ (Own.rd0 hO_at69 hH 2 rfl) (hH.rd htv) (by first | omega | (simp; done) | (simp; omega)) (by first | omega | (simp; done) | (simp; omega)))) ?_
      rintro _ w ⟨rfl, hC⟩
      replace hH := HS.call0 hH hC
      clear hC
      replace hS := hH.pick [0, 1, 2, 3, 4, 5, 9, 10, 11, 12, 13, 14, 15, 16, 17, 18, 19, 20] (Hs' := [_, _, _, _, _, _, _, _, _, _, _, _, _, _, _, _, _, _]) rfl
      refine ⟨fun _ _ => hS, ?_⟩
      intro a hA
      replace hA := hA.decT (by rfl)
      refine p0 hA 5 63 rfl (fun w => (q_move rfl)) fun a hA => ?_
      refine pg hA 6 127 rfl rfl rfl (fun w => (q_fld 1 Tryd.underlying29 rfl rfl ti22 rfl)) fun a hA => ?_
      refine rg hA 7 255 rfl rfl rfl hS (fun w hH => (q_loadB hH 1 rfl (List.mem_singleton.2 rfl) Tryd.underlying22 rfl rfl rfl)) fun a hA => ?_
      refine pg hA 9 767 rfl rfl rfl (fun w => (q_fld 4 Tryd.underlying64 rfl rfl ti22 rfl)) fun a hA => ?_
      refine rg hA 10 1791 rfl rfl rfl hS (fun w hH => (q_loadB hH 14 rfl (List.mem_singleton.2 rfl) Tryd.underlying22 rfl rfl rfl)) fun a hA => ?_
      refine g1 hA 8 2047 rfl rfl rfl (lo_bs (f := B8) (e := 5) ([]) hH rfl rfl (fun w => by kernel_rfl)) ?_
      clear hH; rintro v_t101 w ⟨N_t101, hO_t101, hH⟩
      replace hS := hH.pick [1, 2, 3, 4, 5, 6, 10, 11, 12, 13, 14, 15, 16, 17, 18, 19, 20, 21] (Hs' := [_, _, _, _, _, _, _, _, _, _, _, _, _, _, _, _, _, _]) rfl
      refine ⟨fun _ _ => hS, ?_⟩
      intro a hA
      refine g1 hA 11 4095 rfl rfl rfl (lo_appm hH Tryd.underlying22 Tryd.underlying22 (.inl rfl) ti5 rfl rfl rfl hO_t101 (Rd.src (hH.rd hpv)) (one_B8 _) (by first | omega | (simp; done) | (simp; omega)) (by first | omega | (simp; done) | (simp; omega))) ?_
      clear hH; rintro v_t104 w ⟨N_t104, hO_t104, hH⟩
      replace hS := hH.pick [1, 2, 3, 4, 5, 6, 10, 11, 12, 13, 14, 15, 16, 17, 18, 19, 20, 21] (Hs' := [_, _, _, _, _, _, _, _, _, _, _, _, _, _, _, _, _, _]) rfl
      refine ⟨fun _ _ => hS, ?_⟩
      intro a hA
      refine g1 hA 12 8191 rfl rfl rfl (lo_call fn42 rfl (right22_any (hg.mono0 hH) _ _ (Own.rd0 hO_t104 hH 0 rfl) (by first | omega | (simp; done) | (simp; omega)))) ?_
      rintro _ w ⟨v_t105, N_t105, rfl, hO_t105, hC⟩
      replace hH := HS.call0 hH hC
      clear hC
      replace hS := hH.pick [2, 3, 4, 5, 6, 7, 11, 12, 13, 14, 15, 16, 17, 18, 19, 20, 21, 22] (Hs' := [_, _, _, _, _, _, _, _, _, _, _, _, _, _, _, _, _, _]) rfl
      refine ⟨fun _ _ => hS, ?_⟩
      intro a hA
      refine g1 hA 13 16383 rfl rfl rfl (lo_call fn16 rfl (same_any _ _ _ _ (Own.rd0 hO_bt69 hH 5 rfl) (Own.rd0 hO_t105 hH 0 rfl) (by first | omega | (simp; done) | (simp; omega)) (by first | omega | (simp; done) | (simp; omega)))) ?_
      rintro _ w ⟨rfl, hC⟩
      replace hH := HS.call0 hH hC
      clear hC
      replace hS := hH.pick [2, 3, 4, 5, 6, 7, 11, 12, 13, 14, 15, 16, 17, 18, 19, 20, 21, 22] (Hs' := [_, _, _, _, _, _, _, _, _, _, _, _, _, _, _, _, _, _]) rfl
      refine ⟨fun _ _ => hS, ?_⟩
      intro a hA
      replace hA := hA.decT (by rfl)
      refine p0 hA 14 32767 rfl (fun w => (q_pick_t rfl rfl)) fun a hA => ?_
      refine p0 hA 15 65535 rfl (fun w => (q_move rfl)) fun a hA => ?_
      refine rg hA 16 131071 rfl rfl rfl hS (fun w hH => (q_loadW hH 1 rfl Tryd.underlying29 rfl ti29 rfl (by first | omega | (simp; done) | (simp; omega) | (rw [List.length_map]; assumption) | assumption | rfl | (simp [*]; done) | (simp [*]; omega)))) fun a hA => ?_
      refine rg hA 17 262143 rfl rfl rfl hS (fun w hH => (q_loadW hH 0 rfl Tryd.underlying39 rfl ti39 rfl (by first | omega | (simp; done) | (simp; omega) | (rw [List.length_map]; assumption) | assumption | rfl | (simp [*]; done) | (simp [*]; omega)))) fun a hA => ?_
      refine pg hA 18 524287 rfl rfl rfl (fun w => (q_fld 5 Tryd.underlying64 rfl rfl ti24 rfl)) fun a hA => ?_
      refine rg hA 19 1048575 rfl rfl rfl hS (fun w hH => (q_loadBA hH 14 rfl (List.mem_singleton.2 rfl) Tryd.underlying24 rfl ti24 rfl _ (ordC_n hnn) (by simp [hnn]))) fun a hA => ?_
      refine pg hA 20 2097151 rfl rfl rfl (fun w => (q_move rfl)) fun a hA => ?_
      refine pg hA 22 6291455 rfl rfl rfl (fun w => (q_fld 3 Tryd.underlying78 rfl rfl ti3 rfl)) fun a hA => ?_
      refine rg hA 23 14680063 rfl rfl rfl hS (fun w hH => (q_loadBm ((0 : Int)) hH 17 rfl Tryd.underlying3 rfl rfl (by first | omega | (simp; done) | (simp; omega) | (rw [List.length_map]; assumption) | assumption | rfl | (simp [*]; done) | (simp [*]; omega)))) fun a hA => ?_
      rw [hn3] at hA
      refine pg hA 24 31457279 rfl rfl rfl (fun w => (q_fld 2 Tryd.underlying78 rfl rfl ti3 rfl)) fun a hA => ?_
      refine rg hA 25 65011711 rfl rfl rfl hS (fun w hH => (q_loadBm ((0 : Int)) hH 17 rfl Tryd.underlying3 rfl rfl (by first | omega | (simp; done) | (simp; omega) | (rw [List.length_map]; assumption) | assumption | rfl | (simp [*]; done) | (simp [*]; omega)))) fun a hA => ?_
      rw [hn2] at hA
      replace hH := hH.pick [8, 9, 10, 0, 1, 2, 3, 4, 5, 6, 7, 11, 12, 13, 14, 15, 16, 17, 18, 19, 20, 21, 22] (Hs' := [_, _, _, _, _, _, _, _, _, _, _, _, _, _, _, _, _, _, _, _, _, _, _]) rfl
      refine g1 hA 21 67108863 rfl rfl rfl (lo_call fn50 rfl (pubw_any (hg.mono0 hH) key hkey s hsd n h hR v_l b_w b_k b_s b_m (Gl.ngs (Ns1 := [_, _, _]) hg NG.nil hH) (HS.boxDM (Ns1 := [_, _, _]) hH 14 rfl hsd) (Own.rdM hO_l (Ns1 := [_, _, _]) hH 15 rfl) (D.1.2.2.1 + 1) (by omega) [(_, _)] (HS.handed (Ns1 := [_, _, _]) hH))) ?_
      rintro _ w ⟨rfl, hC⟩
      replace hH := HS.call (Ns1 := [_, _, _]) hH hC
      clear hC
      replace hS := hH.pick [5, 6, 7, 8, 9, 10, 11, 12, 13, 14, 15, 16, 17, 18, 19, 20, 21, 22] (Hs' := [_, _, _, _, _, _, _, _, _, _, _, _, _, _, _, _, _, _]) rfl
      refine ⟨fun _ _ => hS, ?_⟩
      intro a hA
      refine g1 hA 26 134217727 rfl rfl rfl (lo_call fn24 rfl (check20_any (hg.mono0 hH) _ _ _ _ (Own.rd0 hO_at69 hH 7 rfl) (Own.rd0 hO_bt69 hH 8 rfl) (by first | omega | (simp; done) | (simp; omega)) (by first | omega | (simp; done) | (simp; omega)) _ _ _ _ _ (by first | assumption | exact Dg.nil) (by first | assumption | exact Dg.nil) (Own.rd0 hO_ot69 hH 9 rfl) (Own.rd0 hO_pt69 hH 10 rfl) (by first | omega | (simp; done) | (simp; omega)) (by first | omega | (simp; done) | (simp; omega)) (by omega) (by omega) (by omega) _ (by first | rfl | assumption) (by first | exact hts9 | assumption | exact ts9_of (by decide)) _ (by first | exact hnn | exact pubK_length _ _ _ | (first | assumption | (rw [List.length_map]; assumption) | rfl | exact sha_length _ | (simp; done) | (simp [*]; done) | omega)) _ (by first | exact hnn | exact pubK_length _ _ _ | (first | assumption | (rw [List.length_map]; assumption) | rfl | exact sha_length _ | (simp; done) | (simp [*]; done) | omega)) _ _ (by first | omega | decide))) ?_
      rintro _ w ⟨rfl, hC⟩
      replace hH := HS.call0 hH hC
      clear hC
      replace hS := hH.pick [5, 6, 7, 8, 9, 10, 11, 12, 13, 14, 15, 16, 17, 18, 19, 20, 21, 22] (Hs' := [_, _, _, _, _, _, _, _, _, _, _, _, _, _, _, _, _, _]) rfl
      refine ⟨fun _ _ => hS, ?_⟩
      intro a hA
      refine pg hA 27 268435455 rfl rfl rfl (fun w => (q_eqlI (n := 0) rfl rfl)) fun a hA => ?_
      refine p0 hA 28 536870911 rfl (fun w => (q_pick_t rfl rfl)) fun a hA => ?_
      replace hA := hA.decT (by exact congrArg (fun x : Nat => (x : Int)) (chkR_o (by omega) ⟨rfl, by rw [hOT, hPT, hTX]; exact sig_right _ _ hR hix⟩))
      refine p0 hA 29 1073741823 rfl (fun w => (q_move rfl)) fun a hA => ?_
      refine g1 hA 30 2147483647 rfl rfl rfl (lo_call fn35 rfl (awake22_any (hg.mono0 hH))) ?_
      rintro _ w ⟨rfl, hC⟩
      replace hH := HS.call0 hH hC
      clear hC
      replace hS := hH.pick [5, 6, 7, 8, 9, 10, 11, 12, 13, 14, 15, 16, 17, 18, 19, 20, 21, 22] (Hs' := [_, _, _, _, _, _, _, _, _, _, _, _, _, _, _, _, _, _]) rfl
      refine ⟨fun _ _ => hS, ?_⟩
      intro a hA
      refine p0 hA 31 4294967295 rfl (fun w => (q_pick_t rfl rfl)) fun a hA => ?_
      refine p0 hA 32 8589934591 rfl (fun w => (q_assign rfl)) fun a hA => ?_
      refine a_end (by kernel_rfl) ?_ _
      refine hK14 _ _ ?_
      clear hK14
      replace hA := hA.s1 8
      refine wp_ret ?_
      refine post_ret hA (res_1 rfl hA rfl) ?_
      replace hH := hH.pick [] (Hs' := []) rfl
      exact ⟨_, rfl, rfl, hH⟩
    ·skip
     refine pg hA 14 32767 rfl rfl rfl (fun w => (q_not rfl)) fun a hA => ?_
     refine p0 hA 15 65535 rfl (fun w => (q_pick_f rfl rfl)) fun a hA => ?_
     refine p0 hA 16 131071 rfl (fun w => (q_move rfl)) fun a hA => ?_
     refine ps hA 17 262143 rfl rfl rfl fun a hA => ?_
     refine ps hA 18 524287 rfl rfl rfl fun a hA => ?_
     refine ps hA 19 1048575 rfl rfl rfl fun a hA => ?_
     refine ps hA 20 2097151 rfl rfl rfl fun a hA => ?_
     refine ps hA 21 4194303 rfl rfl rfl fun a hA => ?_
     refine ps hA 22 8388607 rfl rfl rfl fun a hA => ?_
     refine p0 hA 23 16777215 rfl (fun w => (q_pick_t rfl rfl)) fun a hA => ?_
     refine a_end (by kernel_rfl) ?_ _
     refine hK3 _ _ ?_
     clear hK3
     replace hA := hA.s6 41 8 7 6 5 4
     refine cond_t hA rfl ?_
     refine wp_seq_k fun K15 hK15 => ?_
     refine wp_region_lit ?_
     refine sl hA (lo_call fn35 rfl (awake22_any (hg.mono0 hH))) rfl ?_
     rintro _ w ⟨rfl, hC⟩ a hA
     replace hH := HS.call0 hH hC
     clear hC
     refine asg hA fun a hA => ?_
     refine wpList_nil ?_
     refine hK15 _ _ ?_
     clear hK15
     replace hA := hA.s5 8 7 6 5 4
     refine wp_ret ?_
     refine then_ret ?_
     refine post_ret hA (res_1 rfl hA rfl) ?_
     replace hH := hH.pick [] (Hs' := []) rfl
     exact ⟨_, rfl, rfl, hH⟩
   ·skip
    refine pg hA 9 1023 rfl rfl rfl (fun w => (q_not rfl)) fun a hA => ?_
    refine p0 hA 10 2047 rfl (fun w => (q_pick_f rfl rfl)) fun a hA => ?_
    refine p0 hA 11 4095 rfl (fun w => (q_move rfl)) fun a hA => ?_
    refine ps hA 12 8191 rfl rfl rfl fun a hA => ?_
    refine ps hA 13 16383 rfl rfl rfl fun a hA => ?_
    refine ps hA 14 32767 rfl rfl rfl fun a hA => ?_
    refine p0 hA 15 65535 rfl (fun w => (q_pick_t rfl rfl)) fun a hA => ?_
    refine p0 hA 16 131071 rfl (fun w => (q_move rfl)) fun a hA => ?_
    refine ps hA 17 262143 rfl rfl rfl fun a hA => ?_
    refine ps hA 18 524287 rfl rfl rfl fun a hA => ?_
    refine ps hA 19 1048575 rfl rfl rfl fun a hA => ?_
    refine ps hA 20 2097151 rfl rfl rfl fun a hA => ?_
    refine ps hA 21 4194303 rfl rfl rfl fun a hA => ?_
    refine ps hA 22 8388607 rfl rfl rfl fun a hA => ?_
    refine p0 hA 23 16777215 rfl (fun w => (q_pick_t rfl rfl)) fun a hA => ?_
    refine a_end (by kernel_rfl) ?_ _
    refine hK3 _ _ ?_
    clear hK3
    replace hA := hA.s6 41 8 7 6 5 4
    refine cond_t hA rfl ?_
    refine wp_seq_k fun K16 hK16 => ?_
    refine wp_region_lit ?_
    refine sl hA (lo_call fn35 rfl (awake22_any (hg.mono0 hH))) rfl ?_
    rintro _ w ⟨rfl, hC⟩ a hA
    replace hH := HS.call0 hH hC
    clear hC
    refine asg hA fun a hA => ?_
    refine wpList_nil ?_
    refine hK16 _ _ ?_
    clear hK16
    replace hA := hA.s5 8 7 6 5 4
    refine wp_ret ?_
    refine then_ret ?_
    refine post_ret hA (res_1 rfl hA rfl) ?_
    replace hH := hH.pick [] (Hs' := []) rfl
    exact ⟨_, rfl, rfl, hH⟩

end Go.Proofs.YtnnkgdijaekcfaaDoor
