/- Layer 22 (worker): the document's worker hears. -/
import Derived.Test.YtnnkgdijaekcfaaGreatDoorKk
import Derived.Test.YtnnkgdijaekcfaaGreatDoorKn
import Derived.Test.YtnnkgdijaekcfaaGreatDoorMzc
namespace Go.Proofs.YtnnkgdijaekcfaaGreatDoor
open Go
set_option linter.unusedVariables false
set_option linter.unusedSimpArgs false
set_option maxRecDepth 100000

set_option maxHeartbeats 2000000 in
theorem refhear_any {w0 : World} {lv : Nat} (hg : Gl (lv + 2) w0) (b_m x : Nat) (key : Bs) (hkey : key.length = 32) (s : Bs) (hsd : s.length = 32) (n h : Nat) (hn : R7 n h) (v_d : Value) (rs : List Dr) (N_d N_c : Hl) (hO_d : Own 91 3 v_d rs.length (rs.map cellsD).flatten N_d) (hD_c : DrM rs N_c) (hLn : ∀ e ∈ rs, e.l.length ≤ 1000000 ∧ e.a.length ≤ 100000) (hrx : rs.length ≤ x) (hx : x ≤ 2 ^ h) (hgM : NG (lv + 2) (doms [[(b_m, Obj.cells (rkX s n h x (wR key v_d)).toArray 39 (0, 0))], N_d, N_c])) (u : Value) (l : Bs) (hu : By (doms [[(b_m, Obj.cells (rkX s n h x (wR key v_d)).toArray 39 (0, 0))], N_d, N_c]) w0 u l) (hl : l.length ≤ 1000000) (D : Ord) (hD : D = decO key l) (R : (Bs × Nat) × (Nat × Dids)) (hRR : R = hearD s n h x (rs.map Dr.did) l D) (hH : HS (doms [[(b_m, Obj.cells (rkX s n h x (wR key v_d)).toArray 39 (0, 0))], N_d, N_c]) w0 w0 [[(b_m, Obj.cells (rkX s n h x (wR key v_d)).toArray 39 (0, 0))], N_d, N_c]) :
    Calls Tryz.prog 13 #[(.pointer (some ⟨b_m, 0, none⟩)), u] w0 (Ret fun r w' => ∃ y v' rs' N_d' N_c', r = .tuple #[y, I R.1.2] ∧ (∀ M w, RO M w N_c' → By M w y R.1.1) ∧ R.2.2 = rs'.map Dr.did ∧ Own 91 3 v' rs'.length (rs'.map cellsD).flatten N_d' ∧ DrM rs' N_c' ∧ (∀ e ∈ rs', e.l.length ≤ 1000000 ∧ e.a.length ≤ 100000) ∧ rs'.length ≤ R.2.1 ∧ R.2.1 ≤ 2 ^ h ∧ R.1.1.length ≤ 100000 ∧ HS (doms [[(b_m, Obj.cells (rkX s n h x (wR key v_d)).toArray 39 (0, 0))], N_d, N_c]) w0 w' [[(b_m, Obj.cells (rkX s n h R.2.1 (wR key v')).toArray 39 (0, 0))], N_d', N_c']) := by
 refine start (n := 130) (E := [(0, _), (1, _)]) Tryz.func13 rfl rfl rfl (args_look rfl) ?_
 intro a hA
 have hn5 := hn.1
 have hn1 := hn.1.1
 have hn2 := hn.1.2
 have hh6 : h ≤ 6 := by have := hn.2.2; omega
 have h64 := pow_le64 hh6
 have hp0 : 0 < 2 ^ h := Nat.pow_pos (by decide)
 have hPl := pubK_length s n h
 have hDn : D.1.2.2.2.2.2.length = 32 := by rw [hD]; exact decO_n key l
 have hDl : D.1.2.2.2.1.length ≤ l.length ∧ D.1.2.2.2.2.1.length ≤ l.length := by rw [hD]; exact decO_len key l
 refine wp_seq_k fun K1 hK1 => ?_
 refine wp_region_lit ?_
 refine asg hA fun a hA => ?_
 refine asg hA fun a hA => ?_
 refine wpList_nil ?_
 refine hK1 _ _ ?_
 clear hK1
 refine wp_seq_k fun K2 hK2 => ?_
 refine wp_region_lit ?_
 refine mv hA fun a hA => ?_
 refine sq hA (q_nilCheck rfl) rfl fun a hA => ?_
 refine sq hA (q_fld 35 Tryz.underlying39 rfl rfl ti25 rfl) rfl fun a hA => ?_
 refine sq hA (q_loadBA hH 0 rfl (List.mem_singleton.2 rfl) Tryz.underlying25 rfl ti25 rfl _ (wR_from hsd hkey) (by simp [hkey])) rfl fun a hA => ?_
 refine mv hA fun a hA => ?_
 refine sl hA (lo_call fn34 rfl (refdecw_g (hg.mono hH hgM) _ (by first | exact hkey | exact hnn | exact hDn | exact hn2 | (first | assumption | (rw [List.length_map]; assumption) | rfl | exact sha_length _ | (simp; done) | (simp [*]; done) | omega)) _ _ (hH.rd hu) (by first | omega | (simp; done) | (simp; omega)) hD)) rfl ?_
 rintro _ w ⟨v_at19, v_bt19, N_at19, N_bt19, rfl, hO_at19, hO_bt19, hC⟩ a hA
 replace hH := HS.call0 hH hC
 clear hC
 refine mv hA fun a hA => ?_
 refine sq hA (q_extract rfl rfl) rfl fun a hA => ?_
 refine sq hA (q_extract rfl rfl) rfl fun a hA => ?_
 refine sl hA (lo_allocA hH ti45) rfl ?_
 clear hH; rintro _ w ⟨b_t6, rfl, hH⟩ a hA
 refine s0 hA (lo_storeAm hH ti45 rfl rfl (by first | rfl | exact ordC_length hDn) (by first | rfl | exact ordC_length hDn) (ordC_one (Own.one hO_at19) (Own.one hO_bt19))) ?_
 clear hH; rintro _ w hH
 refine asg hA fun a hA => ?_
 refine wpList_nil ?_
 refine hK2 _ _ ?_
 clear hK2
 replace hA := hA.s6 7 6 5 4 0 1
 refine wp_seq_k fun K3 hK3 => ?_
 refine wp_seq_k fun K4 hK4 => ?_
 refine wp_region_lit ?_
 refine mv hA fun a hA => ?_
 refine sq hA (q_neqI (n := 0) rfl rfl) rfl fun a hA => ?_
 refine wpList_nil ?_
 refine hK4 _ _ ?_
 clear hK4
 replace hA := hA.s7 23 7 6 5 4 0 1
 refine cond_d hA rfl (fun hc23 => ?_) (fun hc23 => ?_)
 ·skip
  refine wp_seq_k fun K5 hK5 => ?_
  refine wp_region_lit ?_
  refine mv hA fun a hA => ?_
  refine asg hA fun a hA => ?_
  refine asg hA fun a hA => ?_
  refine wpList_nil ?_
  refine hK5 _ _ ?_
  clear hK5
  replace hA := hA.s5 5 4 6 0 1
  refine wp_ret ?_
  refine then_ret ?_
  refine post_ret hA (res_2 rfl hA rfl rfl) ?_
  replace hH := hH.pick [3, 4, 5, 0, 1, 2] (Hs' := [_, _, _, _, _, _]) rfl
  replace hH := hH.pick [0, 1, 2] (Hs' := [_, _, _]) rfl
  rw [hearD_bad (show D.2 ≠ 0 by omega)] at hRR; subst hRR; exact ⟨_, rfl, nilV, v_d, rs, N_d, N_c, rfl, fun M w hw => By.nilV, rfl, hO_d, hD_c, hLn, hrx, hx, Nat.zero_le _, hH⟩
 ·skip
  have he : D.2 = 0 := by omega
  have hMM := decO_may (key := key) (l := l) (by rw [← hD]; exact he)
  rw [← hD] at hMM
  obtain ⟨⟨_, hM1⟩, ⟨_, hM2⟩, ⟨_, hM3⟩, hM4, hM5⟩ := id hMM
  have hr8 := rightV_length D.1.2.2.2.2.1
  have hxl := txV_len (j := (max (D.1.1 : Int) 0).toNat) (a := (max (D.1.2.1 : Int) 0).toNat) (v := rightV D.1.2.2.2.2.1) (nonce := D.1.2.2.2.2.2) (by omega) (by omega) (by omega) hDn
  refine wp_skip ?_
  refine hK3 _ _ ?_
  clear hK3
  replace hA := hA.s5 6 5 4 0 1
  refine wp_seq_k fun K6 hK6 => ?_
  refine wp_seq_k fun K7 hK7 => ?_
  refine wp_region_lit ?_
  refine asg hA fun a hA => ?_
  refine wpList_nil ?_
  refine hK7 _ _ ?_
  clear hK7
  refine wp_block ?_
  replace hH := hH.pick [3, 4, 5, 0, 1, 2] (Hs' := [_, _, _, _, _, _]) rfl
  replace hH := HS.fold [_, _, _, _] [_, _] hH
  obtain ⟨NR8, hNR8, hH⟩ := hH
  refine wp_loop_ghost (fun gm a w => ∃ i : Nat, At 130 [(8, I i), (6, (.pointer (some ⟨b_t6, 0, none⟩))), (5, (I 0)), (4, (.slice none 0 0)), (0, (.pointer (some ⟨b_m, 0, none⟩))), (1, u)] a ∧ HS (doms [[(b_m, Obj.cells (rkX s n h x (wR key v_d)).toArray 39 (0, 0))], N_d, N_c]) w0 w ([[(b_m, Obj.cells (rkX s n h x (wR key v_d)).toArray 39 (0, 0))], N_d, N_c, [(b_t6, Obj.cells (ordC (D.1.1 : Int) (D.1.2.1 : Int) (D.1.2.2.1 : Int) v_at19 v_bt19 D.1.2.2.2.2.2).toArray 45 (0, 0))], NR8]) ∧ (i ≤ rs.length) ∧ (NoD (rs.map Dr.did) i D.1.2.2.1) ∧ gm = rs.length - i) (rs.length - (0)) ⟨0, hA.sub ⟨rfl, rfl, rfl, rfl, rfl, rfl, trivial⟩, hH, by omega, by exact NoD.zero, rfl⟩ ?_
  clear hA hH
  rintro gm a w ⟨i, hA, hH, hi, hno, rfl⟩
  refine wp_seq_k fun K9 hK9 => ?_
  refine wp_seq_k fun K10 hK10 => ?_
  refine wp_region_lit ?_
  refine mv hA fun a hA => ?_
  refine mv hA fun a hA => ?_
  refine sq hA (q_nilCheck rfl) rfl fun a hA => ?_
  refine sq hA (q_fld 67 Tryz.underlying39 rfl rfl ti37 rfl) rfl fun a hA => ?_
  refine sq hA (q_loadB hH 0 rfl (List.mem_singleton.2 rfl) Tryz.underlying37 rfl rfl (wR_67 hsd hkey)) rfl fun a hA => ?_
  refine sq hA (q_len Tryz.underlying37 rfl (Own.shp hO_d)) rfl fun a hA => ?_
  refine sq hA (q_lssI rfl rfl) rfl fun a hA => ?_
  refine wpList_nil ?_
  refine hK10 _ _ ?_
  clear hK10
  refine cond_d hA rfl (fun hc31 => ?_) (fun hc31 => ?_)
  ·skip
   obtain ⟨e, hem, hdi, hE0, hE1, hE2, hQ1, hQ2⟩ := hD_c.get (k := i) (by omega)
   have hel2 := (hLn e hem).1
   refine wp_skip ?_
   refine hK9 _ _ ?_
   clear hK9
   refine wp_seq_k fun K11 hK11 => ?_
   refine wp_block ?_
   refine wp_seq_k fun K12 hK12 => ?_
   refine any_go mixed (fun _ => true) hH ?_
   clear hH; intro w hH
   have hS := hH
   refine any_l 11 ?_
   refine p0 hA 0 1 rfl (fun w => (q_move rfl)) fun a hA => ?_
   refine p0 hA 1 3 rfl (fun w => (q_nilCheck rfl)) fun a hA => ?_
   refine p0 hA 2 7 rfl (fun w => (q_fld 67 Tryz.underlying39 rfl rfl ti37 rfl)) fun a hA => ?_
   refine r0 hA 3 15 rfl hS (fun w hH => (q_loadB hH 0 rfl (List.mem_singleton.2 rfl) Tryz.underlying37 rfl rfl (wR_67 hsd hkey))) fun a hA => ?_
   refine p0 hA 4 31 rfl (fun w => (q_move rfl)) fun a hA => ?_
   refine p0 hA 5 63 rfl (fun w => (q_idxk (i) Tryz.underlying37 ti91 rfl rfl (by first | omega | rfl) (Own.shp hO_d) (by first | omega | (simp; done) | (simp; omega) | (rw [List.length_map]; assumption) | assumption | rfl | (simp [*]; done) | (simp [*]; omega)))) fun a hA => ?_
   refine p0 hA 6 127 rfl (fun w => (q_fldE 0 Tryz.underlying91 rfl rfl ti3 rfl)) fun a hA => ?_
   refine r0 hA 7 255 rfl hS (fun w hH => (q_loadR Tryz.underlying3 rfl rfl (Own.rd0 hO_d hH 1 rfl) (by omega) hE0)) fun a hA => ?_
   refine p0 hA 8 511 rfl (fun w => (q_fld 2 Tryz.underlying45 rfl rfl ti3 rfl)) fun a hA => ?_
   refine r0 hA 9 1023 rfl hS (fun w hH => (q_loadB hH 3 rfl (List.mem_singleton.2 rfl) Tryz.underlying3 rfl rfl rfl)) fun a hA => ?_
   refine p0 hA 10 2047 rfl (fun w => (q_eqlI rfl rfl)) fun a hA => ?_
   refine a_end (by kernel_rfl) ?_ _
   refine hK12 _ _ ?_
   clear hK12
   refine cond_d hA rfl (fun hc44 => ?_) (fun hc44 => ?_)
   ·skip
    have hfd := hno.some hdi (show e.ix = D.1.2.2.1 by omega)
    refine wp_seq_k fun K13 hK13 => ?_
    refine wp_seq_k fun K14 hK14 => ?_
    refine wp_region_lit ?_
    refine mv hA fun a hA => ?_
    refine sq hA (q_nilCheck rfl) rfl fun a hA => ?_
    refine sq hA (q_fld 67 Tryz.underlying39 rfl rfl ti37 rfl) rfl fun a hA => ?_
    refine sq hA (q_loadB hH 0 rfl (List.mem_singleton.2 rfl) Tryz.underlying37 rfl rfl (wR_67 hsd hkey)) rfl fun a hA => ?_
    refine mv hA fun a hA => ?_
    refine sq hA (q_idxk (i) Tryz.underlying37 ti91 rfl rfl (by first | omega | rfl) (Own.shp hO_d) (by first | omega | (simp; done) | (simp; omega) | (rw [List.length_map]; assumption) | assumption | rfl | (simp [*]; done) | (simp [*]; omega))) rfl fun a hA => ?_
    refine sq hA (q_fldE 1 Tryz.underlying91 rfl rfl ti41 rfl) rfl fun a hA => ?_
    refine sq hA (q_loadR Tryz.underlying41 rfl rfl (Own.rd0 hO_d hH 1 rfl) (by omega) hE1) rfl fun a hA => ?_
    refine mv hA fun a hA => ?_
    refine sl hA (lo_call fn14 rfl (same_any _ _ _ _ (hQ1 [] _ (RO.of hH 2 rfl)) (hH.rd hu) (by first | omega | (simp; done) | (simp; omega)) (by first | omega | (simp; done) | (simp; omega)))) rfl ?_
    rintro _ w ⟨rfl, hC⟩ a hA
    replace hH := HS.call0 hH hC
    clear hC
    refine hA.spl (fun hs54 hA => ?_) (fun hs54 hA => ?_)
    ·skip
     refine sq hA (q_not rfl) rfl fun a hA => ?_
     refine wpList_nil ?_
     refine hK14 _ _ ?_
     clear hK14
     refine cond_f hA rfl ?_
     refine wp_skip ?_
     refine hK13 _ _ ?_
     clear hK13
     refine wp_seq_k fun K15 hK15 => ?_
     refine wp_region_lit ?_
     refine mv hA fun a hA => ?_
     refine sq hA (q_nilCheck rfl) rfl fun a hA => ?_
     refine sq hA (q_fld 67 Tryz.underlying39 rfl rfl ti37 rfl) rfl fun a hA => ?_
     refine sq hA (q_loadB hH 0 rfl (List.mem_singleton.2 rfl) Tryz.underlying37 rfl rfl (wR_67 hsd hkey)) rfl fun a hA => ?_
     refine mv hA fun a hA => ?_
     refine sq hA (q_idxk (i) Tryz.underlying37 ti91 rfl rfl (by first | omega | rfl) (Own.shp hO_d) (by first | omega | (simp; done) | (simp; omega) | (rw [List.length_map]; assumption) | assumption | rfl | (simp [*]; done) | (simp [*]; omega))) rfl fun a hA => ?_
     refine sq hA (q_fldE 2 Tryz.underlying91 rfl rfl ti41 rfl) rfl fun a hA => ?_
     refine sq hA (q_loadR Tryz.underlying41 rfl rfl (Own.rd0 hO_d hH 1 rfl) (by omega) hE2) rfl fun a hA => ?_
     refine asg hA fun a hA => ?_
     refine asg hA fun a hA => ?_
     refine wpList_nil ?_
     refine hK15 _ _ ?_
     clear hK15
     refine wp_ret ?_
     refine block_ret ?_
     refine then_ret ?_
     refine then_ret ?_
     refine block_ret ?_
     refine then_ret ?_
     replace hH := HS.unfold [_, _, _, _] hNR8 hH
     refine post_ret hA (res_2 rfl hA rfl rfl) ?_
     replace hH := hH.pick [0, 1, 2] (Hs' := [_, _, _]) rfl
     rw [hearD_same he hfd hs54] at hRR; subst hRR; exact ⟨_, rfl, e.av, v_d, rs, N_d, N_c, rfl, hQ2, rfl, hO_d, hD_c, hLn, hrx, hx, (hLn e hem).2, hH⟩
    ·skip
     refine sq hA (q_not rfl) rfl fun a hA => ?_
     refine wpList_nil ?_
     refine hK14 _ _ ?_
     clear hK14
     refine cond_t hA rfl ?_
     refine wp_seq_k fun K16 hK16 => ?_
     refine wp_region_lit ?_
     refine asg hA fun a hA => ?_
     refine asg hA fun a hA => ?_
     refine wpList_nil ?_
     refine hK16 _ _ ?_
     clear hK16
     refine wp_ret ?_
     refine then_ret ?_
     refine block_ret ?_
     refine then_ret ?_
     refine then_ret ?_
     refine block_ret ?_
     refine then_ret ?_
     replace hH := HS.unfold [_, _, _, _] hNR8 hH
     refine post_ret hA (res_2 rfl hA rfl rfl) ?_
     replace hH := hH.pick [0, 1, 2] (Hs' := [_, _, _]) rfl
     rw [hearD_state he hfd hs54] at hRR; subst hRR; exact ⟨_, rfl, nilV, v_d, rs, N_d, N_c, rfl, fun M w hw => By.nilV, rfl, hO_d, hD_c, hLn, hrx, hx, Nat.zero_le _, hH⟩
   ·skip
    have hnx : ¬ e.did.1 = D.1.2.2.1 := fun h => hc44 (congrArg (fun x : Nat => (x : Int)) h)
    refine wp_skip ?_
    refine block_normal ?_
    refine hK11 _ _ ?_
    clear hK11
    refine wp_region_lit ?_
    refine mv hA fun a hA => ?_
    refine sq hA (q_addI (n := 1) rfl rfl (by omega)) rfl fun a hA => ?_
    refine asg hA fun a hA => ?_
    refine wpList_nil ?_
    exact ⟨_, by omega, i + 1, hA.sub ⟨rfl, rfl, rfl, rfl, rfl, rfl, trivial⟩, hH, by omega, by exact hno.succ hdi hnx, rfl⟩
  ·skip
   have hnf := hno.none (show (rs.map Dr.did).length ≤ i by rw [List.length_map]; omega)
   refine wp_exit ?_
   refine then_exit ?_
   replace hH := HS.unfold [_, _, _, _] hNR8 hH
   refine then_exit ?_
   refine exit_here ?_
   refine hK6 _ _ ?_
   clear hK6
   replace hA := hA.s5 6 5 4 0 1
   refine wp_seq_k fun K17 hK17 => ?_
   refine wp_seq_k fun K18 hK18 => ?_
   refine any_go mixed (fun _ => true) hH ?_
   clear hH; intro w hH
   have hS := hH
   refine any_l 19 ?_
   refine p0 hA 0 1 rfl (fun w => (q_fld 2 Tryz.underlying45 rfl rfl ti3 rfl)) fun a hA => ?_
   refine r0 hA 1 3 rfl hS (fun w hH => (q_loadB hH 3 rfl (List.mem_singleton.2 rfl) Tryz.underlying3 rfl rfl rfl)) fun a hA => ?_
   refine p0 hA 2 7 rfl (fun w => (q_move rfl)) fun a hA => ?_
   refine p0 hA 3 15 rfl (fun w => (q_nilCheck rfl)) fun a hA => ?_
   refine p0 hA 4 31 rfl (fun w => (q_fld 0 Tryz.underlying39 rfl rfl ti36 rfl)) fun a hA => ?_
   refine p0 hA 5 63 rfl (fun w => (q_fld 34 Tryz.underlying36 rfl rfl ti3 rfl)) fun a hA => ?_
   refine r0 hA 6 127 rfl hS (fun w hH => (q_loadB hH 0 rfl (List.mem_singleton.2 rfl) Tryz.underlying3 rfl rfl (rkX_34 hsd))) fun a hA => ?_
   refine p0 hA 7 255 rfl (fun w => (q_lssI rfl rfl)) fun a hA => ?_
   refine hA.spl (fun hs71 hA => ?_) (fun hs71 hA => ?_)
   ·skip
    refine p0 hA 8 511 rfl (fun w => (q_move rfl)) fun a hA => ?_
    refine ps hA 9 1023 rfl rfl rfl fun a hA => ?_
    refine ps hA 10 2047 rfl rfl rfl fun a hA => ?_
    refine ps hA 11 4095 rfl rfl rfl fun a hA => ?_
    refine ps hA 12 8191 rfl rfl rfl fun a hA => ?_
    refine ps hA 13 16383 rfl rfl rfl fun a hA => ?_
    refine ps hA 14 32767 rfl rfl rfl fun a hA => ?_
    refine ps hA 15 65535 rfl rfl rfl fun a hA => ?_
    refine ps hA 16 131071 rfl rfl rfl fun a hA => ?_
    refine ps hA 17 262143 rfl rfl rfl fun a hA => ?_
    refine p0 hA 18 524287 rfl (fun w => (q_pick_t rfl rfl)) fun a hA => ?_
    refine a_end (by kernel_rfl) ?_ _
    refine hK18 _ _ ?_
    clear hK18
    replace hA := hA.s6 82 6 5 4 0 1
    refine cond_t hA rfl ?_
    refine wp_seq_k fun K19 hK19 => ?_
    refine wp_region_lit ?_
    refine asg hA fun a hA => ?_
    refine asg hA fun a hA => ?_
    refine wpList_nil ?_
    refine hK19 _ _ ?_
    clear hK19
    replace hA := hA.s5 5 4 6 0 1
    refine wp_ret ?_
    refine then_ret ?_
    refine post_ret hA (res_2 rfl hA rfl rfl) ?_
    replace hH := hH.pick [0, 1, 2] (Hs' := [_, _, _]) rfl
    rw [hearD_keys he hnf (by omega)] at hRR; subst hRR; exact ⟨_, rfl, nilV, v_d, rs, N_d, N_c, rfl, fun M w hw => By.nilV, rfl, hO_d, hD_c, hLn, hrx, hx, Nat.zero_le _, hH⟩
   ·skip
    refine p0 hA 8 511 rfl (fun w => (q_move rfl)) fun a hA => ?_
    refine pg hA 9 1023 rfl rfl rfl (fun w => (q_fld 2 Tryz.underlying45 rfl rfl ti3 rfl)) fun a hA => ?_
    refine rg hA 10 2047 rfl rfl rfl hS (fun w hH => (q_loadB hH 3 rfl (List.mem_singleton.2 rfl) Tryz.underlying3 rfl rfl rfl)) fun a hA => ?_
    refine pg hA 11 4095 rfl rfl rfl (fun w => (q_move rfl)) fun a hA => ?_
    refine pg hA 12 8191 rfl rfl rfl (fun w => (q_nilCheck rfl)) fun a hA => ?_
    refine pg hA 13 16383 rfl rfl rfl (fun w => (q_fld 0 Tryz.underlying39 rfl rfl ti36 rfl)) fun a hA => ?_
    refine pg hA 14 32767 rfl rfl rfl (fun w => (q_fld 33 Tryz.underlying36 rfl rfl ti3 rfl)) fun a hA => ?_
    refine rg hA 15 65535 rfl rfl rfl hS (fun w hH => (q_loadB hH 0 rfl (List.mem_singleton.2 rfl) Tryz.underlying3 rfl rfl (rkX_33 hsd))) fun a hA => ?_
    refine pg hA 16 131071 rfl rfl rfl (fun w => (q_shlI (m := 1) (n := h) ((2 ^ h : Nat) : Int) rfl rfl (by omega) (by push_cast; rfl) (by omega))) fun a hA => ?_
    rw [Int.one_mul] at hA
    refine pg hA 17 262143 rfl rfl rfl (fun w => (q_geqI rfl rfl)) fun a hA => ?_
    refine p0 hA 18 524287 rfl (fun w => (q_pick_f rfl rfl)) fun a hA => ?_
    refine a_end (by kernel_rfl) ?_ _
    refine hK18 _ _ ?_
    clear hK18
    replace hA := hA.s6 82 6 5 4 0 1
    refine cond_d hA rfl (fun hc82 => ?_) (fun hc82 => ?_)
    ·skip
     refine wp_seq_k fun K20 hK20 => ?_
     refine wp_region_lit ?_
     refine asg hA fun a hA => ?_
     refine asg hA fun a hA => ?_
     refine wpList_nil ?_
     refine hK20 _ _ ?_
     clear hK20
     replace hA := hA.s5 5 4 6 0 1
     refine wp_ret ?_
     refine then_ret ?_
     refine post_ret hA (res_2 rfl hA rfl rfl) ?_
     replace hH := hH.pick [0, 1, 2] (Hs' := [_, _, _]) rfl
     rw [hearD_keys he hnf (by omega)] at hRR; subst hRR; exact ⟨_, rfl, nilV, v_d, rs, N_d, N_c, rfl, fun M w hw => By.nilV, rfl, hO_d, hD_c, hLn, hrx, hx, Nat.zero_le _, hH⟩
    ·skip
     refine wp_skip ?_
     refine hK17 _ _ ?_
     clear hK17
     replace hA := hA.s5 6 5 4 0 1
     refine wp_seq_k fun K21 hK21 => ?_
     refine any_go mixed (fun j => !(Nat.beq j 5)) hH ?_
     clear hH; intro w hH
     have hS := hH
     refine any_l 6 ?_
     refine p0 hA 0 1 rfl (fun w => (q_move rfl)) fun a hA => ?_
     refine p0 hA 1 3 rfl (fun w => (q_nilCheck rfl)) fun a hA => ?_
     refine p0 hA 2 7 rfl (fun w => (q_fld 0 Tryz.underlying39 rfl rfl ti36 rfl)) fun a hA => ?_
     refine p0 hA 3 15 rfl (fun w => (q_fld 2 Tryz.underlying45 rfl rfl ti3 rfl)) fun a hA => ?_
     refine r0 hA 4 31 rfl hS (fun w hH => (q_loadB hH 3 rfl (List.mem_singleton.2 rfl) Tryz.underlying3 rfl rfl rfl)) fun a hA => ?_
     refine a1n hA 5 63 rfl (lo_call fn35 rfl (refskipX (hg.mono hH hgM) b_m (hg.ng hgM hH) s hsd n h hn _ _ x hx _ (HS.handed (Ns1 := [_]) hH))) ?_
     rintro _ w ⟨rfl, hC⟩
     replace hH := HS.call (Ns1 := [_]) hH hC
     clear hC
     rw [show skT (2 ^ h) x (D.1.2.2.1 : Int) = (0, D.1.2.2.1) from skT_ok (by omega) (by omega)] at hH
     intro a hA
     refine a_end (by kernel_rfl) ?_ _
     refine hK21 _ _ ?_
     clear hK21
     replace hA := hA.s5 6 5 4 0 1
     refine wp_seq_k fun K22 hK22 => ?_
     refine wp_region_lit ?_
     refine sq hA (q_fld 4 Tryz.underlying45 rfl rfl ti41 rfl) rfl fun a hA => ?_
     refine sq hA (q_loadB hH 3 rfl (List.mem_singleton.2 rfl) Tryz.underlying41 rfl rfl rfl) rfl fun a hA => ?_
     refine sl hA (lo_call fn36 rfl (refright22_any (hg.mono hH hgM) _ _ (Own.rd0 hO_bt19 hH 5 rfl) (by first | omega | (simp; done) | (simp; omega)))) rfl ?_
     rintro _ w ⟨v_t91, N_t91, rfl, hO_t91, hC⟩ a hA
     replace hH := HS.call0 hH hC
     clear hC
     refine asg hA fun a hA => ?_
     refine wpList_nil ?_
     refine hK22 _ _ ?_
     clear hK22
     replace hA := hA.s6 9 6 5 4 0 1
     refine wp_seq_k fun K23 hK23 => ?_
     refine any_goI mixed [0, 2, 3, 4, 5, 6] (Hs' := [_, _, _, _, _, _]) rfl (fun j => !(Nat.beq j 10 || Nat.beq j 16)) hH ?_
     clear hH; intro w hH hS
     refine any_l 18 ?_
     refine p0 hA 0 1 rfl (fun w => (q_move rfl)) fun a hA => ?_
     refine p0 hA 1 3 rfl (fun w => (q_nilCheck rfl)) fun a hA => ?_
     refine p0 hA 2 7 rfl (fun w => (q_fld 0 Tryz.underlying39 rfl rfl ti36 rfl)) fun a hA => ?_
     refine p0 hA 3 15 rfl (fun w => (q_fld 0 Tryz.underlying45 rfl rfl ti3 rfl)) fun a hA => ?_
     refine r0 hA 4 31 rfl hS (fun w hH => (q_loadB hH 3 rfl (List.mem_singleton.2 rfl) Tryz.underlying3 rfl rfl rfl)) fun a hA => ?_
     refine p0 hA 5 63 rfl (fun w => (q_fld 1 Tryz.underlying45 rfl rfl ti3 rfl)) fun a hA => ?_
     refine r0 hA 6 127 rfl hS (fun w hH => (q_loadB hH 3 rfl (List.mem_singleton.2 rfl) Tryz.underlying3 rfl rfl rfl)) fun a hA => ?_
     refine p0 hA 7 255 rfl (fun w => (q_move rfl)) fun a hA => ?_
     refine p0 hA 8 511 rfl (fun w => (q_fld 5 Tryz.underlying45 rfl rfl ti25 rfl)) fun a hA => ?_
     refine r0 hA 9 1023 rfl hS (fun w hH => (q_loadBA hH 3 rfl (List.mem_singleton.2 rfl) Tryz.underlying25 rfl ti25 rfl _ (ordC_n hDn) (by simp [hDn]))) fun a hA => ?_
     refine a_ch2 (i := 10) (j := 15) (by kernel_rfl) ?_ ?_
     ·skip
      refine o1n hA 10 2047 rfl (lo_call fn38 rfl (reftext20_any _ _ (by first | exact hts9 _ | assumption | omega | decide) (by first | exact hts9 _ | assumption | omega | decide) _ _ (Own.rd0 hO_t91 hH 0 rfl) (by first | omega | (simp; done) | (simp; omega)) _ (by first | assumption | (rw [List.length_map]; assumption) | rfl | exact sha_length _ | (simp; done) | (simp [*]; done) | omega))) ?_
      rintro _ w ⟨v_t103, N_t103, rfl, hO_t103, hC⟩
      replace hH := HS.call0 hH hC
      clear hC
      intro a hA
      refine a_ch2 (i := 11) (j := 15) (by kernel_rfl) ?_ ?_
      ·skip
       replace hH := hH.pick [2, 0, 1, 3, 4, 5, 6, 7] (Hs' := [_, _, _, _, _, _, _, _]) rfl
       refine o1 hA 11 4095 rfl (lo_call fn37 rfl (refsignX (hg.mono hH hgM) b_m (hg.ng hgM hH) s hsd n h hn _ _ D.1.2.2.1 (by omega) _ (txV (max (D.1.1 : Int) 0).toNat (max (D.1.2.1 : Int) 0).toNat (rightV D.1.2.2.2.2.1) D.1.2.2.2.2.2) (Own.rdM hO_t103 (Ns1 := [_]) hH 0 rfl) (by first | omega | (simp; done) | (simp; omega)) (HS.handed (Ns1 := [_]) hH))) ?_
       rintro _ w ⟨v_ot104, v_pt104, N_ot104, N_pt104, rfl, hO_ot104, hO_pt104, hC⟩
       replace hH := HS.call (Ns1 := [_]) hH hC
       clear hC
       have hdo := otsK_dg s n D.1.2.2.1 (txV (max (D.1.1 : Int) 0).toNat (max (D.1.2.1 : Int) 0).toNat (rightV D.1.2.2.2.2.1) D.1.2.2.2.2.2)
       have hdp := pthK_dg s n (show D.1.2.2.1 < 2 ^ h by omega)
       have hlo := otsK_length s n D.1.2.2.1 (txV (max (D.1.1 : Int) 0).toNat (max (D.1.2.1 : Int) 0).toNat (rightV D.1.2.2.2.2.1) D.1.2.2.2.2.2)
       have hlp := pthK_length s n h D.1.2.2.1
       have hel := encK_len (i := (D.1.2.2.1 : Int)) (by omega) hdo hdp
       replace hS := hH.pick [4, 5, 6, 7, 8, 9] (Hs' := [_, _, _, _, _, _]) rfl
       refine ⟨fun _ _ => hS, ?_⟩
       intro a hA
       refine p0 hA 12 8191 rfl (fun w => (q_move rfl)) fun a hA => ?_
       refine p0 hA 13 16383 rfl (fun w => (q_extract rfl rfl)) fun a hA => ?_
       refine p0 hA 14 32767 rfl (fun w => (q_extract rfl rfl)) fun a hA => ?_
       refine a1 hA 15 65535 rfl (lo_allocA hH ti81) ?_
       clear hH; rintro _ w ⟨b_t10, rfl, hH⟩
       replace hS := hH.pick [5, 6, 7, 8, 9, 10] (Hs' := [_, _, _, _, _, _]) rfl
       refine ⟨fun _ _ => hS, ?_⟩
       intro a hA
       refine a0n hA 16 131071 rfl (lo_storeAm hH ti81 rfl rfl (rfl) (rfl) (ones_cons rfl (ones_cons (Own.one hO_ot104) (ones_cons (Own.one hO_pt104) ones_nil)))) ?_
       clear hH; rintro _ w hH
       refine p0 hA 17 262143 rfl (fun w => (q_assign rfl)) fun a hA => ?_
       refine a_end (by kernel_rfl) ?_ _
       refine hK23 _ _ ?_
       clear hK23
       replace hA := hA.s7 10 9 6 5 4 0 1
       refine wp_seq_k fun K24 hK24 => ?_
       refine wp_region_lit ?_
       refine sq hA (q_fld 3 Tryz.underlying45 rfl rfl ti41 rfl) rfl fun a hA => ?_
       refine sq hA (q_loadB hH 8 rfl (List.mem_singleton.2 rfl) Tryz.underlying41 rfl rfl rfl) rfl fun a hA => ?_
       refine mv hA fun a hA => ?_
       refine sq hA (q_loadW hH 0 rfl Tryz.underlying81 rfl ti81 rfl (by first | omega | (simp; done) | (simp; omega) | (rw [List.length_map]; assumption) | assumption | rfl | (simp [*]; done) | (simp [*]; omega))) rfl fun a hA => ?_
       refine sq hA (q_buildC (css := [[v_at19], [v_t91], _]) (z := [(.slice none 0 0), (.slice none 0 0), (I 0), (.slice none 0 0), (.slice none 0 0)]) (BT.mk (pl := [(0, 1), (1, 1), (2, 3)]) (it := Tryz.t87) (by kernel_rfl) Tryz.underlying87 (by kernel_rfl) (by kernel_rfl)) rfl ⟨cells_one (Own.one hO_at19), ⟨_, rfl, by first | rfl | (simp [Value.cells]; done) | (simp [Value.cells, *]; done), by decide⟩, cells_one (Own.one hO_t91), ⟨_, rfl, by first | rfl | (simp [Value.cells]; done) | (simp [Value.cells, *]; done), by decide⟩, rfl, ⟨_, rfl, by first | rfl | (simp [Value.cells]; done) | (simp [Value.cells, *]; done), by decide⟩, trivial⟩) rfl fun a hA => ?_
       refine sl hA (lo_call fn39 rfl (refenc20_any _ _ _ _ (Own.rd0 hO_at19 hH 9 rfl) (Own.rd0 hO_t91 hH 5 rfl) (by first | omega | (simp; done) | (simp; omega)) (by first | omega | (simp; done) | (simp; omega)) _ _ _ _ _ (by first | assumption | exact Dg.nil) (by first | assumption | exact Dg.nil) (Own.rd0 hO_ot104 hH 2 rfl) (Own.rd0 hO_pt104 hH 3 rfl) (by first | omega | (simp; done) | (simp; omega)) (by first | omega | (simp; done) | (simp; omega)) (by omega) (by omega) (by omega))) rfl ?_
       rintro _ w ⟨v_t112, N_t112, rfl, hO_t112, hC⟩ a hA
       replace hH := HS.call0 hH hC
       clear hC
       have hrl := encR_len (u := D.1.2.2.2.1) (v := rightV D.1.2.2.2.2.1) (E := encK (D.1.2.2.1 : Int) (otsK s n D.1.2.2.1 (txV (max (D.1.1 : Int) 0).toNat (max (D.1.2.1 : Int) 0).toNat (rightV D.1.2.2.2.2.1) D.1.2.2.2.2.2)) (pthK s n h D.1.2.2.1)) (by omega) (by omega) (by omega)
       refine asg hA fun a hA => ?_
       refine wpList_nil ?_
       refine hK24 _ _ ?_
       clear hK24
       replace hA := hA.s6 12 6 5 4 0 1
       refine wp_seq_k fun K25 hK25 => ?_
       refine any_goI mixed [0, 1, 2, 3, 4, 5, 6, 8, 9, 10, 11] (Hs' := [_, _, _, _, _, _, _, _, _, _, _]) rfl (fun j => !(Nat.beq j 16)) hH ?_
       clear hH; intro w hH hS
       refine any_l 17 ?_
       refine p0 hA 0 1 rfl (fun w => (q_move rfl)) fun a hA => ?_
       refine p0 hA 1 3 rfl (fun w => (q_move rfl)) fun a hA => ?_
       refine p0 hA 2 7 rfl (fun w => (q_nilCheck rfl)) fun a hA => ?_
       refine p0 hA 3 15 rfl (fun w => (q_fld 67 Tryz.underlying39 rfl rfl ti37 rfl)) fun a hA => ?_
       refine r0 hA 4 31 rfl hS (fun w hH => (q_loadB hH 2 rfl (List.mem_singleton.2 rfl) Tryz.underlying37 rfl rfl (wR_67 hsd hkey))) fun a hA => ?_
       refine p0 hA 5 63 rfl (fun w => (q_fld 2 Tryz.underlying45 rfl rfl ti3 rfl)) fun a hA => ?_
       refine r0 hA 6 127 rfl hS (fun w hH => (q_loadB hH 8 rfl (List.mem_singleton.2 rfl) Tryz.underlying3 rfl rfl rfl)) fun a hA => ?_
       refine p0 hA 8 383 rfl (fun w => (q_move rfl)) fun a hA => ?_
       refine p0 hA 10 1407 rfl (fun w => (q_move rfl)) fun a hA => ?_
       refine a1 hA 7 1535 rfl (lo_bs (f := B8) (e := 5) ([]) hH rfl rfl (fun w => by kernel_rfl)) ?_
       clear hH; rintro v_t120 w ⟨N_t120, hO_t120, hH⟩
       replace hS := hH.pick [1, 2, 3, 4, 5, 6, 7, 9, 10, 11, 12] (Hs' := [_, _, _, _, _, _, _, _, _, _, _]) rfl
       refine ⟨fun _ _ => hS, ?_⟩
       intro a hA
       refine a1 hA 9 2047 rfl (lo_appm hH Tryz.underlying41 Tryz.underlying41 (.inl rfl) ti5 rfl rfl rfl hO_t120 (Rd.src (hH.rd hu)) (one_B8 _) (by first | omega | (simp; done) | (simp; omega)) (by first | omega | (simp; done) | (simp; omega))) ?_
       clear hH; rintro v_t122 w ⟨N_t122, hO_t122, hH⟩
       replace hS := hH.pick [1, 2, 3, 4, 5, 6, 7, 9, 10, 11, 12] (Hs' := [_, _, _, _, _, _, _, _, _, _, _]) rfl
       refine ⟨fun _ _ => hS, ?_⟩
       intro a hA
       refine p0 hA 11 4095 rfl (fun w => (q_buildC (css := [_, [v_t122], [v_t112]]) (z := [(I 0), (.slice none 0 0), (.slice none 0 0)]) (BT.mk (pl := [(0, 1), (1, 1), (2, 1)]) (it := Tryz.t91) (by kernel_rfl) Tryz.underlying91 (by kernel_rfl) (by kernel_rfl)) rfl ⟨rfl, ⟨_, rfl, by first | rfl | (simp [Value.cells]; done) | (simp [Value.cells, *]; done), by decide⟩, cells_one (Own.one hO_t122), ⟨_, rfl, by first | rfl | (simp [Value.cells]; done) | (simp [Value.cells, *]; done), by decide⟩, cells_one (Own.one hO_t112), ⟨_, rfl, by first | rfl | (simp [Value.cells]; done) | (simp [Value.cells, *]; done), by decide⟩, trivial⟩)) fun a hA => ?_
       refine a1 hA 12 8191 rfl (lo_buildS (cs := cellsD (⟨D.1.2.2.1, v_t122, v_t112, l, ansV s n h D⟩ : Dr)) hH Tryz.underlying37 ti91 rfl rfl (by decide) (by decide)) ?_
       clear hH; rintro v_t125 w ⟨N_t125, hO_t125, hH⟩
       replace hS := hH.pick [2, 3, 4, 5, 6, 7, 8, 10, 11, 12, 13] (Hs' := [_, _, _, _, _, _, _, _, _, _, _]) rfl
       refine ⟨fun _ _ => hS, ?_⟩
       intro a hA
       replace hH := hH.pick [9, 0, 1, 2, 3, 4, 5, 6, 7, 8, 10, 11, 12, 13] (Hs' := [_, _, _, _, _, _, _, _, _, _, _, _, _, _]) rfl
       refine a1 hA 13 16383 rfl (lo_append hH Tryz.underlying37 Tryz.underlying37 (.inl rfl) ti91 rfl rfl rfl hO_d (Rd.src (Own.rd0 hO_t125 hH 1 rfl)) (ones_cons rfl (ones_cons (Own.one hO_t122) (ones_cons (Own.one hO_t112) ones_nil))) (by first | omega | (simp; done) | (simp; omega)) (by first | omega | (simp; done) | (simp; omega))) ?_
       clear hH; rintro v_t126 w ⟨N_t126, hO_t126, hH⟩
       replace hS := hH.pick [3, 4, 5, 6, 7, 8, 9, 10, 11, 12, 13] (Hs' := [_, _, _, _, _, _, _, _, _, _, _]) rfl
       refine ⟨fun _ _ => hS, ?_⟩
       intro a hA
       refine p0 hA 14 32767 rfl (fun w => (q_nilCheck rfl)) fun a hA => ?_
       refine p0 hA 15 65535 rfl (fun w => (q_fld 67 Tryz.underlying39 rfl rfl ti37 rfl)) fun a hA => ?_
       replace hH := hH.pick [5, 0, 1, 2, 3, 4, 6, 7, 8, 9, 10, 11, 12, 13] (Hs' := [_, _, _, _, _, _, _, _, _, _, _, _, _, _]) rfl
       refine a0n hA 16 131071 rfl (lo_store1 hH ti37 rfl rfl ((wR_lt hsd hkey)) (Own.one hO_t126)) ?_
       clear hH; rintro _ w hH
       rw [wR_set hsd hkey] at hH
       replace hH := hH.pick [3, 4, 0, 1, 2, 5, 6, 7, 8, 9, 10, 11, 12, 13] (Hs' := [_, _, _, _, _, _, _, _, _, _, _, _, _, _]) rfl
       replace hH := hH.join
       replace hH := hH.pick [9, 0, 1, 2, 3, 4, 5, 6, 7, 8, 10, 11, 12] (Hs' := [_, _, _, _, _, _, _, _, _, _, _, _, _]) rfl
       replace hH := hH.join
       replace hO_t126 : Own 91 3 v_t126 (rs ++ [(⟨D.1.2.2.1, v_t122, v_t112, l, ansV s n h D⟩ : Dr)]).length ((rs ++ [(⟨D.1.2.2.1, v_t122, v_t112, l, ansV s n h D⟩ : Dr)]).map cellsD).flatten N_t126 := by have q := hO_t126; simp only [List.length_append, List.length_singleton, List.map_append, List.map_cons, List.map_nil, List.flatten_append, List.flatten_cons, List.flatten_nil, List.append_nil]; exact q
       replace hO_t122 : Ow B8 5 v_t122 l N_t122 := by simpa using hO_t122
       have hal : (ansV s n h D).length ≤ 100000 := ansV_len hn (by omega) hMM hDn
       refine a_end (by kernel_rfl) ?_ _
       refine hK25 _ _ ?_
       clear hK25
       replace hA := hA.s3 12 5 4
       refine wp_seq_k fun K26 hK26 => ?_
       refine wp_region_lit ?_
       refine mv hA fun a hA => ?_
       refine asg hA fun a hA => ?_
       refine asg hA fun a hA => ?_
       refine wpList_nil ?_
       refine hK26 _ _ ?_
       clear hK26
       replace hA := hA.s2 5 4
       refine wp_ret ?_
       refine post_ret hA (res_2 rfl hA rfl rfl) ?_
       replace hH := hH.pick [1, 2, 0, 3, 4, 5, 6, 7, 8, 9, 10, 11] (Hs' := [_, _, _, _, _, _, _, _, _, _, _, _]) rfl
       replace hH := hH.pick [0, 1, 2] (Hs' := [_, _, _]) rfl
       rw [hearD_new he hnf (by omega)] at hRR; subst hRR; exact ⟨_, rfl, v_t112, v_t126, rs ++ [(⟨D.1.2.2.1, v_t122, v_t112, l, ansV s n h D⟩ : Dr)], N_t126, _, rfl, fun M w hw => Own.ro hO_t112 hw.right.right, by rw [List.map_append]; rfl, hO_t126, hD_c.snoc hO_t122 hO_t112, (fun e he => by rcases List.mem_append.1 he with h | h; exact hLn e h; obtain rfl := List.mem_singleton.1 h; exact ⟨hl, hal⟩), by simp; omega, by simp; omega, hal, hH⟩
      ·skip
       refine o1 hA 15 34815 rfl (lo_allocA hH ti81) ?_
       clear hH; rintro _ w ⟨b_t10, rfl, hH⟩
       replace hS := hH.pick [2, 4, 5, 6, 7, 8] (Hs' := [_, _, _, _, _, _]) rfl
       refine ⟨fun _ _ => hS, ?_⟩
       intro a hA
       replace hH := hH.pick [3, 0, 1, 2, 4, 5, 6, 7, 8] (Hs' := [_, _, _, _, _, _, _, _, _]) rfl
       refine a1 hA 11 36863 rfl (lo_call fn37 rfl (refsignX (hg.mono hH hgM) b_m (hg.ng hgM hH) s hsd n h hn _ _ D.1.2.2.1 (by omega) _ (txV (max (D.1.1 : Int) 0).toNat (max (D.1.2.1 : Int) 0).toNat (rightV D.1.2.2.2.2.1) D.1.2.2.2.2.2) (Own.rdM hO_t103 (Ns1 := [_]) hH 1 rfl) (by first | omega | (simp; done) | (simp; omega)) (HS.handed (Ns1 := [_]) hH))) ?_
       rintro _ w ⟨v_ot104, v_pt104, N_ot104, N_pt104, rfl, hO_ot104, hO_pt104, hC⟩
       replace hH := HS.call (Ns1 := [_]) hH hC
       clear hC
       have hdo := otsK_dg s n D.1.2.2.1 (txV (max (D.1.1 : Int) 0).toNat (max (D.1.2.1 : Int) 0).toNat (rightV D.1.2.2.2.2.1) D.1.2.2.2.2.2)
       have hdp := pthK_dg s n (show D.1.2.2.1 < 2 ^ h by omega)
       have hlo := otsK_length s n D.1.2.2.1 (txV (max (D.1.1 : Int) 0).toNat (max (D.1.2.1 : Int) 0).toNat (rightV D.1.2.2.2.2.1) D.1.2.2.2.2.2)
       have hlp := pthK_length s n h D.1.2.2.1
       have hel := encK_len (i := (D.1.2.2.1 : Int)) (by omega) hdo hdp
       replace hS := hH.pick [5, 6, 7, 8, 9, 10] (Hs' := [_, _, _, _, _, _]) rfl
       refine ⟨fun _ _ => hS, ?_⟩
       intro a hA
       refine p0 hA 12 40959 rfl (fun w => (q_move rfl)) fun a hA => ?_
       refine p0 hA 13 49151 rfl (fun w => (q_extract rfl rfl)) fun a hA => ?_
       refine p0 hA 14 65535 rfl (fun w => (q_extract rfl rfl)) fun a hA => ?_
       replace hH := hH.pick [3, 0, 1, 2, 4, 5, 6, 7, 8, 9, 10] (Hs' := [_, _, _, _, _, _, _, _, _, _, _]) rfl
       refine a0n hA 16 131071 rfl (lo_storeAm hH ti81 rfl rfl (rfl) (rfl) (ones_cons rfl (ones_cons (Own.one hO_ot104) (ones_cons (Own.one hO_pt104) ones_nil)))) ?_
       clear hH; rintro _ w hH
       refine p0 hA 17 262143 rfl (fun w => (q_assign rfl)) fun a hA => ?_
       refine a_end (by kernel_rfl) ?_ _
       refine hK23 _ _ ?_
       clear hK23
       replace hA := hA.s7 10 9 6 5 4 0 1
       refine wp_seq_k fun K27 hK27 => ?_
       refine wp_region_lit ?_
       refine sq hA (q_fld 3 Tryz.underlying45 rfl rfl ti41 rfl) rfl fun a hA => ?_
       refine sq hA (q_loadB hH 8 rfl (List.mem_singleton.2 rfl) Tryz.underlying41 rfl rfl rfl) rfl fun a hA => ?_
       refine mv hA fun a hA => ?_
       refine sq hA (q_loadW hH 0 rfl Tryz.underlying81 rfl ti81 rfl (by first | omega | (simp; done) | (simp; omega) | (rw [List.length_map]; assumption) | assumption | rfl | (simp [*]; done) | (simp [*]; omega))) rfl fun a hA => ?_
       refine sq hA (q_buildC (css := [[v_at19], [v_t91], _]) (z := [(.slice none 0 0), (.slice none 0 0), (I 0), (.slice none 0 0), (.slice none 0 0)]) (BT.mk (pl := [(0, 1), (1, 1), (2, 3)]) (it := Tryz.t87) (by kernel_rfl) Tryz.underlying87 (by kernel_rfl) (by kernel_rfl)) rfl ⟨cells_one (Own.one hO_at19), ⟨_, rfl, by first | rfl | (simp [Value.cells]; done) | (simp [Value.cells, *]; done), by decide⟩, cells_one (Own.one hO_t91), ⟨_, rfl, by first | rfl | (simp [Value.cells]; done) | (simp [Value.cells, *]; done), by decide⟩, rfl, ⟨_, rfl, by first | rfl | (simp [Value.cells]; done) | (simp [Value.cells, *]; done), by decide⟩, trivial⟩) rfl fun a hA => ?_
       refine sl hA (lo_call fn39 rfl (refenc20_any _ _ _ _ (Own.rd0 hO_at19 hH 9 rfl) (Own.rd0 hO_t91 hH 5 rfl) (by first | omega | (simp; done) | (simp; omega)) (by first | omega | (simp; done) | (simp; omega)) _ _ _ _ _ (by first | assumption | exact Dg.nil) (by first | assumption | exact Dg.nil) (Own.rd0 hO_ot104 hH 2 rfl) (Own.rd0 hO_pt104 hH 3 rfl) (by first | omega | (simp; done) | (simp; omega)) (by first | omega | (simp; done) | (simp; omega)) (by omega) (by omega) (by omega))) rfl ?_
       rintro _ w ⟨v_t112, N_t112, rfl, hO_t112, hC⟩ a hA
       replace hH := HS.call0 hH hC
       clear hC
       have hrl := encR_len (u := D.1.2.2.2.1) (v := rightV D.1.2.2.2.2.1) (E := encK (D.1.2.2.1 : Int) (otsK s n D.1.2.2.1 (txV (max (D.1.1 : Int) 0).toNat (max (D.1.2.1 : Int) 0).toNat (rightV D.1.2.2.2.2.1) D.1.2.2.2.2.2)) (pthK s n h D.1.2.2.1)) (by omega) (by omega) (by omega)
       refine asg hA fun a hA => ?_
       refine wpList_nil ?_
       refine hK27 _ _ ?_
       clear hK27
       replace hA := hA.s6 12 6 5 4 0 1
       refine wp_seq_k fun K28 hK28 => ?_
       refine any_goI mixed [0, 1, 2, 3, 4, 5, 6, 8, 9, 10, 11] (Hs' := [_, _, _, _, _, _, _, _, _, _, _]) rfl (fun j => !(Nat.beq j 16)) hH ?_
       clear hH; intro w hH hS
       refine any_l 17 ?_
       refine p0 hA 0 1 rfl (fun w => (q_move rfl)) fun a hA => ?_
       refine p0 hA 1 3 rfl (fun w => (q_move rfl)) fun a hA => ?_
       refine p0 hA 2 7 rfl (fun w => (q_nilCheck rfl)) fun a hA => ?_
       refine p0 hA 3 15 rfl (fun w => (q_fld 67 Tryz.underlying39 rfl rfl ti37 rfl)) fun a hA => ?_
       refine r0 hA 4 31 rfl hS (fun w hH => (q_loadB hH 2 rfl (List.mem_singleton.2 rfl) Tryz.underlying37 rfl rfl (wR_67 hsd hkey))) fun a hA => ?_
       refine p0 hA 5 63 rfl (fun w => (q_fld 2 Tryz.underlying45 rfl rfl ti3 rfl)) fun a hA => ?_
       refine r0 hA 6 127 rfl hS (fun w hH => (q_loadB hH 8 rfl (List.mem_singleton.2 rfl) Tryz.underlying3 rfl rfl rfl)) fun a hA => ?_
       refine p0 hA 8 383 rfl (fun w => (q_move rfl)) fun a hA => ?_
       refine p0 hA 10 1407 rfl (fun w => (q_move rfl)) fun a hA => ?_
       refine a1 hA 7 1535 rfl (lo_bs (f := B8) (e := 5) ([]) hH rfl rfl (fun w => by kernel_rfl)) ?_
       clear hH; rintro v_t120 w ⟨N_t120, hO_t120, hH⟩
       replace hS := hH.pick [1, 2, 3, 4, 5, 6, 7, 9, 10, 11, 12] (Hs' := [_, _, _, _, _, _, _, _, _, _, _]) rfl
       refine ⟨fun _ _ => hS, ?_⟩
       intro a hA
       refine a1 hA 9 2047 rfl (lo_appm hH Tryz.underlying41 Tryz.underlying41 (.inl rfl) ti5 rfl rfl rfl hO_t120 (Rd.src (hH.rd hu)) (one_B8 _) (by first | omega | (simp; done) | (simp; omega)) (by first | omega | (simp; done) | (simp; omega))) ?_
       clear hH; rintro v_t122 w ⟨N_t122, hO_t122, hH⟩
       replace hS := hH.pick [1, 2, 3, 4, 5, 6, 7, 9, 10, 11, 12] (Hs' := [_, _, _, _, _, _, _, _, _, _, _]) rfl
       refine ⟨fun _ _ => hS, ?_⟩
       intro a hA
       refine p0 hA 11 4095 rfl (fun w => (q_buildC (css := [_, [v_t122], [v_t112]]) (z := [(I 0), (.slice none 0 0), (.slice none 0 0)]) (BT.mk (pl := [(0, 1), (1, 1), (2, 1)]) (it := Tryz.t91) (by kernel_rfl) Tryz.underlying91 (by kernel_rfl) (by kernel_rfl)) rfl ⟨rfl, ⟨_, rfl, by first | rfl | (simp [Value.cells]; done) | (simp [Value.cells, *]; done), by decide⟩, cells_one (Own.one hO_t122), ⟨_, rfl, by first | rfl | (simp [Value.cells]; done) | (simp [Value.cells, *]; done), by decide⟩, cells_one (Own.one hO_t112), ⟨_, rfl, by first | rfl | (simp [Value.cells]; done) | (simp [Value.cells, *]; done), by decide⟩, trivial⟩)) fun a hA => ?_
       refine a1 hA 12 8191 rfl (lo_buildS (cs := cellsD (⟨D.1.2.2.1, v_t122, v_t112, l, ansV s n h D⟩ : Dr)) hH Tryz.underlying37 ti91 rfl rfl (by decide) (by decide)) ?_
       clear hH; rintro v_t125 w ⟨N_t125, hO_t125, hH⟩
       replace hS := hH.pick [2, 3, 4, 5, 6, 7, 8, 10, 11, 12, 13] (Hs' := [_, _, _, _, _, _, _, _, _, _, _]) rfl
       refine ⟨fun _ _ => hS, ?_⟩
       intro a hA
       replace hH := hH.pick [9, 0, 1, 2, 3, 4, 5, 6, 7, 8, 10, 11, 12, 13] (Hs' := [_, _, _, _, _, _, _, _, _, _, _, _, _, _]) rfl
       refine a1 hA 13 16383 rfl (lo_append hH Tryz.underlying37 Tryz.underlying37 (.inl rfl) ti91 rfl rfl rfl hO_d (Rd.src (Own.rd0 hO_t125 hH 1 rfl)) (ones_cons rfl (ones_cons (Own.one hO_t122) (ones_cons (Own.one hO_t112) ones_nil))) (by first | omega | (simp; done) | (simp; omega)) (by first | omega | (simp; done) | (simp; omega))) ?_
       clear hH; rintro v_t126 w ⟨N_t126, hO_t126, hH⟩
       replace hS := hH.pick [3, 4, 5, 6, 7, 8, 9, 10, 11, 12, 13] (Hs' := [_, _, _, _, _, _, _, _, _, _, _]) rfl
       refine ⟨fun _ _ => hS, ?_⟩
       intro a hA
       refine p0 hA 14 32767 rfl (fun w => (q_nilCheck rfl)) fun a hA => ?_
       refine p0 hA 15 65535 rfl (fun w => (q_fld 67 Tryz.underlying39 rfl rfl ti37 rfl)) fun a hA => ?_
       replace hH := hH.pick [5, 0, 1, 2, 3, 4, 6, 7, 8, 9, 10, 11, 12, 13] (Hs' := [_, _, _, _, _, _, _, _, _, _, _, _, _, _]) rfl
       refine a0n hA 16 131071 rfl (lo_store1 hH ti37 rfl rfl ((wR_lt hsd hkey)) (Own.one hO_t126)) ?_
       clear hH; rintro _ w hH
       rw [wR_set hsd hkey] at hH
       replace hH := hH.pick [3, 4, 0, 1, 2, 5, 6, 7, 8, 9, 10, 11, 12, 13] (Hs' := [_, _, _, _, _, _, _, _, _, _, _, _, _, _]) rfl
       replace hH := hH.join
       replace hH := hH.pick [9, 0, 1, 2, 3, 4, 5, 6, 7, 8, 10, 11, 12] (Hs' := [_, _, _, _, _, _, _, _, _, _, _, _, _]) rfl
       replace hH := hH.join
       replace hO_t126 : Own 91 3 v_t126 (rs ++ [(⟨D.1.2.2.1, v_t122, v_t112, l, ansV s n h D⟩ : Dr)]).length ((rs ++ [(⟨D.1.2.2.1, v_t122, v_t112, l, ansV s n h D⟩ : Dr)]).map cellsD).flatten N_t126 := by have q := hO_t126; simp only [List.length_append, List.length_singleton, List.map_append, List.map_cons, List.map_nil, List.flatten_append, List.flatten_cons, List.flatten_nil, List.append_nil]; exact q
       replace hO_t122 : Ow B8 5 v_t122 l N_t122 := by simpa using hO_t122
       have hal : (ansV s n h D).length ≤ 100000 := ansV_len hn (by omega) hMM hDn
       refine a_end (by kernel_rfl) ?_ _
       refine hK28 _ _ ?_
       clear hK28
       replace hA := hA.s3 12 5 4
       refine wp_seq_k fun K29 hK29 => ?_
       refine wp_region_lit ?_
       refine mv hA fun a hA => ?_
       refine asg hA fun a hA => ?_
       refine asg hA fun a hA => ?_
       refine wpList_nil ?_
       refine hK29 _ _ ?_
       clear hK29
       replace hA := hA.s2 5 4
       refine wp_ret ?_
       refine post_ret hA (res_2 rfl hA rfl rfl) ?_
       replace hH := hH.pick [1, 2, 0, 3, 4, 5, 6, 7, 8, 9, 10, 11] (Hs' := [_, _, _, _, _, _, _, _, _, _, _, _]) rfl
       replace hH := hH.pick [0, 1, 2] (Hs' := [_, _, _]) rfl
       rw [hearD_new he hnf (by omega)] at hRR; subst hRR; exact ⟨_, rfl, v_t112, v_t126, rs ++ [(⟨D.1.2.2.1, v_t122, v_t112, l, ansV s n h D⟩ : Dr)], N_t126, _, rfl, fun M w hw => Own.ro hO_t112 hw.right.right, by rw [List.map_append]; rfl, hO_t126, hD_c.snoc hO_t122 hO_t112, (fun e he => by rcases List.mem_append.1 he with h | h; exact hLn e h; obtain rfl := List.mem_singleton.1 h; exact ⟨hl, hal⟩), by simp; omega, by simp; omega, hal, hH⟩
     ·skip
      refine o1 hA 15 33791 rfl (lo_allocA hH ti81) ?_
      clear hH; rintro _ w ⟨b_t10, rfl, hH⟩
      replace hS := hH.pick [1, 3, 4, 5, 6, 7] (Hs' := [_, _, _, _, _, _]) rfl
      refine ⟨fun _ _ => hS, ?_⟩
      intro a hA
      refine a1n hA 10 34815 rfl (lo_call fn38 rfl (reftext20_any _ _ (by first | exact hts9 _ | assumption | omega | decide) (by first | exact hts9 _ | assumption | omega | decide) _ _ (Own.rd0 hO_t91 hH 1 rfl) (by first | omega | (simp; done) | (simp; omega)) _ (by first | assumption | (rw [List.length_map]; assumption) | rfl | exact sha_length _ | (simp; done) | (simp [*]; done) | omega))) ?_
      rintro _ w ⟨v_t103, N_t103, rfl, hO_t103, hC⟩
      replace hH := HS.call0 hH hC
      clear hC
      intro a hA
      replace hH := hH.pick [3, 0, 1, 2, 4, 5, 6, 7, 8] (Hs' := [_, _, _, _, _, _, _, _, _]) rfl
      refine a1 hA 11 36863 rfl (lo_call fn37 rfl (refsignX (hg.mono hH hgM) b_m (hg.ng hgM hH) s hsd n h hn _ _ D.1.2.2.1 (by omega) _ (txV (max (D.1.1 : Int) 0).toNat (max (D.1.2.1 : Int) 0).toNat (rightV D.1.2.2.2.2.1) D.1.2.2.2.2.2) (Own.rdM hO_t103 (Ns1 := [_]) hH 0 rfl) (by first | omega | (simp; done) | (simp; omega)) (HS.handed (Ns1 := [_]) hH))) ?_
      rintro _ w ⟨v_ot104, v_pt104, N_ot104, N_pt104, rfl, hO_ot104, hO_pt104, hC⟩
      replace hH := HS.call (Ns1 := [_]) hH hC
      clear hC
      have hdo := otsK_dg s n D.1.2.2.1 (txV (max (D.1.1 : Int) 0).toNat (max (D.1.2.1 : Int) 0).toNat (rightV D.1.2.2.2.2.1) D.1.2.2.2.2.2)
      have hdp := pthK_dg s n (show D.1.2.2.1 < 2 ^ h by omega)
      have hlo := otsK_length s n D.1.2.2.1 (txV (max (D.1.1 : Int) 0).toNat (max (D.1.2.1 : Int) 0).toNat (rightV D.1.2.2.2.2.1) D.1.2.2.2.2.2)
      have hlp := pthK_length s n h D.1.2.2.1
      have hel := encK_len (i := (D.1.2.2.1 : Int)) (by omega) hdo hdp
      replace hS := hH.pick [5, 6, 7, 8, 9, 10] (Hs' := [_, _, _, _, _, _]) rfl
      refine ⟨fun _ _ => hS, ?_⟩
      intro a hA
      refine p0 hA 12 40959 rfl (fun w => (q_move rfl)) fun a hA => ?_
      refine p0 hA 13 49151 rfl (fun w => (q_extract rfl rfl)) fun a hA => ?_
      refine p0 hA 14 65535 rfl (fun w => (q_extract rfl rfl)) fun a hA => ?_
      replace hH := hH.pick [4, 0, 1, 2, 3, 5, 6, 7, 8, 9, 10] (Hs' := [_, _, _, _, _, _, _, _, _, _, _]) rfl
      refine a0n hA 16 131071 rfl (lo_storeAm hH ti81 rfl rfl (rfl) (rfl) (ones_cons rfl (ones_cons (Own.one hO_ot104) (ones_cons (Own.one hO_pt104) ones_nil)))) ?_
      clear hH; rintro _ w hH
      refine p0 hA 17 262143 rfl (fun w => (q_assign rfl)) fun a hA => ?_
      refine a_end (by kernel_rfl) ?_ _
      refine hK23 _ _ ?_
      clear hK23
      replace hA := hA.s7 10 9 6 5 4 0 1
      refine wp_seq_k fun K30 hK30 => ?_
      refine wp_region_lit ?_
      refine sq hA (q_fld 3 Tryz.underlying45 rfl rfl ti41 rfl) rfl fun a hA => ?_
      refine sq hA (q_loadB hH 8 rfl (List.mem_singleton.2 rfl) Tryz.underlying41 rfl rfl rfl) rfl fun a hA => ?_
      refine mv hA fun a hA => ?_
      refine sq hA (q_loadW hH 0 rfl Tryz.underlying81 rfl ti81 rfl (by first | omega | (simp; done) | (simp; omega) | (rw [List.length_map]; assumption) | assumption | rfl | (simp [*]; done) | (simp [*]; omega))) rfl fun a hA => ?_
      refine sq hA (q_buildC (css := [[v_at19], [v_t91], _]) (z := [(.slice none 0 0), (.slice none 0 0), (I 0), (.slice none 0 0), (.slice none 0 0)]) (BT.mk (pl := [(0, 1), (1, 1), (2, 3)]) (it := Tryz.t87) (by kernel_rfl) Tryz.underlying87 (by kernel_rfl) (by kernel_rfl)) rfl ⟨cells_one (Own.one hO_at19), ⟨_, rfl, by first | rfl | (simp [Value.cells]; done) | (simp [Value.cells, *]; done), by decide⟩, cells_one (Own.one hO_t91), ⟨_, rfl, by first | rfl | (simp [Value.cells]; done) | (simp [Value.cells, *]; done), by decide⟩, rfl, ⟨_, rfl, by first | rfl | (simp [Value.cells]; done) | (simp [Value.cells, *]; done), by decide⟩, trivial⟩) rfl fun a hA => ?_
      refine sl hA (lo_call fn39 rfl (refenc20_any _ _ _ _ (Own.rd0 hO_at19 hH 9 rfl) (Own.rd0 hO_t91 hH 5 rfl) (by first | omega | (simp; done) | (simp; omega)) (by first | omega | (simp; done) | (simp; omega)) _ _ _ _ _ (by first | assumption | exact Dg.nil) (by first | assumption | exact Dg.nil) (Own.rd0 hO_ot104 hH 2 rfl) (Own.rd0 hO_pt104 hH 3 rfl) (by first | omega | (simp; done) | (simp; omega)) (by first | omega | (simp; done) | (simp; omega)) (by omega) (by omega) (by omega))) rfl ?_
      rintro _ w ⟨v_t112, N_t112, rfl, hO_t112, hC⟩ a hA
      replace hH := HS.call0 hH hC
      clear hC
      have hrl := encR_len (u := D.1.2.2.2.1) (v := rightV D.1.2.2.2.2.1) (E := encK (D.1.2.2.1 : Int) (otsK s n D.1.2.2.1 (txV (max (D.1.1 : Int) 0).toNat (max (D.1.2.1 : Int) 0).toNat (rightV D.1.2.2.2.2.1) D.1.2.2.2.2.2)) (pthK s n h D.1.2.2.1)) (by omega) (by omega) (by omega)
      refine asg hA fun a hA => ?_
      refine wpList_nil ?_
      refine hK30 _ _ ?_
      clear hK30
      replace hA := hA.s6 12 6 5 4 0 1
      refine wp_seq_k fun K31 hK31 => ?_
      refine any_goI mixed [0, 1, 2, 3, 4, 5, 6, 8, 9, 10, 11] (Hs' := [_, _, _, _, _, _, _, _, _, _, _]) rfl (fun j => !(Nat.beq j 16)) hH ?_
      clear hH; intro w hH hS
      refine any_l 17 ?_
      refine p0 hA 0 1 rfl (fun w => (q_move rfl)) fun a hA => ?_
      refine p0 hA 1 3 rfl (fun w => (q_move rfl)) fun a hA => ?_
      refine p0 hA 2 7 rfl (fun w => (q_nilCheck rfl)) fun a hA => ?_
      refine p0 hA 3 15 rfl (fun w => (q_fld 67 Tryz.underlying39 rfl rfl ti37 rfl)) fun a hA => ?_
      refine r0 hA 4 31 rfl hS (fun w hH => (q_loadB hH 2 rfl (List.mem_singleton.2 rfl) Tryz.underlying37 rfl rfl (wR_67 hsd hkey))) fun a hA => ?_
      refine p0 hA 5 63 rfl (fun w => (q_fld 2 Tryz.underlying45 rfl rfl ti3 rfl)) fun a hA => ?_
      refine r0 hA 6 127 rfl hS (fun w hH => (q_loadB hH 8 rfl (List.mem_singleton.2 rfl) Tryz.underlying3 rfl rfl rfl)) fun a hA => ?_
      refine p0 hA 8 383 rfl (fun w => (q_move rfl)) fun a hA => ?_
      refine p0 hA 10 1407 rfl (fun w => (q_move rfl)) fun a hA => ?_
      refine a1 hA 7 1535 rfl (lo_bs (f := B8) (e := 5) ([]) hH rfl rfl (fun w => by kernel_rfl)) ?_
      clear hH; rintro v_t120 w ⟨N_t120, hO_t120, hH⟩
      replace hS := hH.pick [1, 2, 3, 4, 5, 6, 7, 9, 10, 11, 12] (Hs' := [_, _, _, _, _, _, _, _, _, _, _]) rfl
      refine ⟨fun _ _ => hS, ?_⟩
      intro a hA
      refine a1 hA 9 2047 rfl (lo_appm hH Tryz.underlying41 Tryz.underlying41 (.inl rfl) ti5 rfl rfl rfl hO_t120 (Rd.src (hH.rd hu)) (one_B8 _) (by first | omega | (simp; done) | (simp; omega)) (by first | omega | (simp; done) | (simp; omega))) ?_
      clear hH; rintro v_t122 w ⟨N_t122, hO_t122, hH⟩
      replace hS := hH.pick [1, 2, 3, 4, 5, 6, 7, 9, 10, 11, 12] (Hs' := [_, _, _, _, _, _, _, _, _, _, _]) rfl
      refine ⟨fun _ _ => hS, ?_⟩
      intro a hA
      refine p0 hA 11 4095 rfl (fun w => (q_buildC (css := [_, [v_t122], [v_t112]]) (z := [(I 0), (.slice none 0 0), (.slice none 0 0)]) (BT.mk (pl := [(0, 1), (1, 1), (2, 1)]) (it := Tryz.t91) (by kernel_rfl) Tryz.underlying91 (by kernel_rfl) (by kernel_rfl)) rfl ⟨rfl, ⟨_, rfl, by first | rfl | (simp [Value.cells]; done) | (simp [Value.cells, *]; done), by decide⟩, cells_one (Own.one hO_t122), ⟨_, rfl, by first | rfl | (simp [Value.cells]; done) | (simp [Value.cells, *]; done), by decide⟩, cells_one (Own.one hO_t112), ⟨_, rfl, by first | rfl | (simp [Value.cells]; done) | (simp [Value.cells, *]; done), by decide⟩, trivial⟩)) fun a hA => ?_
      refine a1 hA 12 8191 rfl (lo_buildS (cs := cellsD (⟨D.1.2.2.1, v_t122, v_t112, l, ansV s n h D⟩ : Dr)) hH Tryz.underlying37 ti91 rfl rfl (by decide) (by decide)) ?_
      clear hH; rintro v_t125 w ⟨N_t125, hO_t125, hH⟩
      replace hS := hH.pick [2, 3, 4, 5, 6, 7, 8, 10, 11, 12, 13] (Hs' := [_, _, _, _, _, _, _, _, _, _, _]) rfl
      refine ⟨fun _ _ => hS, ?_⟩
      intro a hA
      replace hH := hH.pick [9, 0, 1, 2, 3, 4, 5, 6, 7, 8, 10, 11, 12, 13] (Hs' := [_, _, _, _, _, _, _, _, _, _, _, _, _, _]) rfl
      refine a1 hA 13 16383 rfl (lo_append hH Tryz.underlying37 Tryz.underlying37 (.inl rfl) ti91 rfl rfl rfl hO_d (Rd.src (Own.rd0 hO_t125 hH 1 rfl)) (ones_cons rfl (ones_cons (Own.one hO_t122) (ones_cons (Own.one hO_t112) ones_nil))) (by first | omega | (simp; done) | (simp; omega)) (by first | omega | (simp; done) | (simp; omega))) ?_
      clear hH; rintro v_t126 w ⟨N_t126, hO_t126, hH⟩
      replace hS := hH.pick [3, 4, 5, 6, 7, 8, 9, 10, 11, 12, 13] (Hs' := [_, _, _, _, _, _, _, _, _, _, _]) rfl
      refine ⟨fun _ _ => hS, ?_⟩
      intro a hA
      refine p0 hA 14 32767 rfl (fun w => (q_nilCheck rfl)) fun a hA => ?_
      refine p0 hA 15 65535 rfl (fun w => (q_fld 67 Tryz.underlying39 rfl rfl ti37 rfl)) fun a hA => ?_
      replace hH := hH.pick [5, 0, 1, 2, 3, 4, 6, 7, 8, 9, 10, 11, 12, 13] (Hs' := [_, _, _, _, _, _, _, _, _, _, _, _, _, _]) rfl
      refine a0n hA 16 131071 rfl (lo_store1 hH ti37 rfl rfl ((wR_lt hsd hkey)) (Own.one hO_t126)) ?_
      clear hH; rintro _ w hH
      rw [wR_set hsd hkey] at hH
      replace hH := hH.pick [3, 4, 0, 1, 2, 5, 6, 7, 8, 9, 10, 11, 12, 13] (Hs' := [_, _, _, _, _, _, _, _, _, _, _, _, _, _]) rfl
      replace hH := hH.join
      replace hH := hH.pick [9, 0, 1, 2, 3, 4, 5, 6, 7, 8, 10, 11, 12] (Hs' := [_, _, _, _, _, _, _, _, _, _, _, _, _]) rfl
      replace hH := hH.join
      replace hO_t126 : Own 91 3 v_t126 (rs ++ [(⟨D.1.2.2.1, v_t122, v_t112, l, ansV s n h D⟩ : Dr)]).length ((rs ++ [(⟨D.1.2.2.1, v_t122, v_t112, l, ansV s n h D⟩ : Dr)]).map cellsD).flatten N_t126 := by have q := hO_t126; simp only [List.length_append, List.length_singleton, List.map_append, List.map_cons, List.map_nil, List.flatten_append, List.flatten_cons, List.flatten_nil, List.append_nil]; exact q
      replace hO_t122 : Ow B8 5 v_t122 l N_t122 := by simpa using hO_t122
      have hal : (ansV s n h D).length ≤ 100000 := ansV_len hn (by omega) hMM hDn
      refine a_end (by kernel_rfl) ?_ _
      refine hK31 _ _ ?_
      clear hK31
      replace hA := hA.s3 12 5 4
      refine wp_seq_k fun K32 hK32 => ?_
      refine wp_region_lit ?_
      refine mv hA fun a hA => ?_
      refine asg hA fun a hA => ?_
      refine asg hA fun a hA => ?_
      refine wpList_nil ?_
      refine hK32 _ _ ?_
      clear hK32
      replace hA := hA.s2 5 4
      refine wp_ret ?_
      refine post_ret hA (res_2 rfl hA rfl rfl) ?_
      replace hH := hH.pick [1, 2, 0, 3, 4, 5, 6, 7, 8, 9, 10, 11] (Hs' := [_, _, _, _, _, _, _, _, _, _, _, _]) rfl
      replace hH := hH.pick [0, 1, 2] (Hs' := [_, _, _]) rfl
      rw [hearD_new he hnf (by omega)] at hRR; subst hRR; exact ⟨_, rfl, v_t112, v_t126, rs ++ [(⟨D.1.2.2.1, v_t122, v_t112, l, ansV s n h D⟩ : Dr)], N_t126, _, rfl, fun M w hw => Own.ro hO_t112 hw.right.right, by rw [List.map_append]; rfl, hO_t126, hD_c.snoc hO_t122 hO_t112, (fun e he => by rcases List.mem_append.1 he with h | h; exact hLn e h; obtain rfl := List.mem_singleton.1 h; exact ⟨hl, hal⟩), by simp; omega, by simp; omega, hal, hH⟩

/-- the document's worker's memory -/
def RwM (key s : Bs) (n h : Nat) (b_m x : Nat) (did : Dids) (N : Hl) : Prop :=
  ∃ (v_d : Value) (rs : List Dr) (N_d N_c : Hl), N = [(b_m, Obj.cells (rkX s n h x (wR key v_d)).toArray 39 (0, 0))] ++ (N_d ++ N_c) ∧ did = rs.map Dr.did ∧ Own 91 3 v_d rs.length (rs.map cellsD).flatten N_d ∧ DrM rs N_c ∧ (∀ e ∈ rs, e.l.length ≤ 1000000 ∧ e.a.length ≤ 100000) ∧ rs.length ≤ x ∧ x ≤ 2 ^ h
theorem refhear_r {w0 : World} {lv : Nat} (hg : Gl (lv + 2) w0) (b_m x : Nat) (key : Bs) (hkey : key.length = 32) (s : Bs) (hsd : s.length = 32) (n h : Nat) (hn : R7 n h) (did : Dids) (N : Hl) (hW : RwM key s n h b_m x did N) (hgM : NG (lv + 2) (doms [N])) (u : Value) (l : Bs) (hu : By (doms [N]) w0 u l) (hl : l.length ≤ 1000000) (D : Ord) (hD : D = decO key l) {R : (Bs × Nat) × (Nat × Dids)} (hRR : R = hearD s n h x did l D) (hH : HS (doms [N]) w0 w0 [N]) :
    Calls Tryz.prog 13 #[(.pointer (some ⟨b_m, 0, none⟩)), u] w0 (Ret fun r w' => ∃ y N', r = .tuple #[y, I R.1.2] ∧ (∀ M w, RO M w N' → By M w y R.1.1) ∧ R.1.1.length ≤ 100000 ∧ RwM key s n h b_m R.2.1 R.2.2 N' ∧ HS (doms [N]) w0 w' [N']) := by
  obtain ⟨v_d, rs, N_d, N_c, rfl, rfl, hO, hC, hL, h1, h2⟩ := hW
  rw [doms_3] at hgM hu hH ⊢
  have h3 := (hH.split.pick [1, 0] (Hs' := [_, _]) rfl).split.pick [2, 0, 1] (Hs' := [_, _, _]) rfl
  refine (refhear_any hg b_m x key hkey s hsd n h hn v_d rs N_d N_c hO hC hL h1 h2 hgM u l hu hl D hD R hRR h3).mono fun e w' hr => ?_
  obtain ⟨r, hr0, y, v', rs', Nd', Nc', q1, q2, q3, q4, q5, q6, q7, q8, q9, q10⟩ := hr
  have h4 := ((q10.pick [1, 2, 0] (Hs' := [_, _, _]) rfl).join.pick [1, 0] (Hs' := [_, _]) rfl).join
  exact ⟨r, hr0, y, _, q1, fun M w hw => q2 M w hw.right.right, q9, ⟨v', rs', Nd', Nc', rfl, q3, q4, q5, q6, q7, q8⟩, h4⟩
end Go.Proofs.YtnnkgdijaekcfaaGreatDoor
