/- Layer 7 (keys): a signature of bytes. -/
import Derived.Test.YtnnkgdijaekcfaaDoorHa
import Derived.Test.YtnnkgdijaekcfaaDoorEc
import Derived.Test.YtnnkgdijaekcfaaDoorMzc
namespace Go.Proofs.YtnnkgdijaekcfaaDoor
open Go
set_option linter.unusedVariables false
set_option linter.unusedSimpArgs false
set_option maxRecDepth 100000

theorem dec7_bad {w0 : World} (v : Value) (n h : Int) (hn : ¬ R7 n h) :
    Calls Tryd.prog 76 #[v, I n, I h] w0 (Ret fun r w' => r = .tuple #[.agg #[I 0, .slice none 0 0, .slice none 0 0], I 1] ∧ HS [] w0 w' []) := by
 have hH := HS.start w0
 refine start (n := 67) (E := [(0, _), (1, _), (2, _)]) Tryd.func76 rfl rfl rfl (args_look rfl) ?_
 intro a hA
 refine wp_seq_k fun K1 hK1 => ?_
 refine wp_region_lit ?_
 refine sl hA (lo_allocA hH ti27) rfl ?_
 clear hH; rintro _ w ⟨b_t6, rfl, hH⟩ a hA
 refine asg hA fun a hA => ?_
 refine wpList_nil ?_
 refine hK1 _ _ ?_
 clear hK1
 refine wp_seq_k fun K2 hK2 => ?_
 refine wp_seq_k fun K3 hK3 => ?_
 refine wp_region_lit ?_
 refine mv hA fun a hA => ?_
 refine mv hA fun a hA => ?_
 refine sl hA (lo_call fn64 rfl (right7_any _ _)) rfl ?_
 rintro _ w ⟨rfl, hC⟩ a hA
 replace hH := HS.call0 hH hC
 clear hC
 replace hA := hA.decF (by exact hn)
 refine sq hA (q_not rfl) rfl fun a hA => ?_
 refine wpList_nil ?_
 refine hK3 _ _ ?_
 clear hK3
 replace hA := hA.s6 18 7 6 0 1 2
 refine cond_t hA rfl ?_
 refine wp_seq_k fun K4 hK4 => ?_
 refine wp_region_lit ?_
 refine sq hA (q_build (v := (.agg ([(I 0), (.slice none 0 0), (.slice none 0 0)]).toArray)) (vs := []) rfl (fun w => by kernel_rfl)) rfl fun a hA => ?_
 refine s0 hA (lo_storeAm hH ti27 rfl rfl (rfl) (rfl) (ones_cons rfl (ones_cons rfl (ones_cons rfl ones_nil)))) ?_
 clear hH; rintro _ w hH
 refine asg hA fun a hA => ?_
 refine wpList_nil ?_
 refine hK4 _ _ ?_
 clear hK4
 replace hA := hA.s5 7 6 0 1 2
 refine wp_ret ?_
 refine then_ret ?_
 refine post_ret hA (res_c1 rfl hA rfl rfl (resW hH 0 rfl Tryd.underlying27 rfl ti27 (by first | assumption | (rw [List.length_map]; assumption) | rfl | exact sha_length _ | (simp; done) | (simp [*]; done) | omega))) ?_
 replace hH := hH.pick [] (Hs' := []) rfl
 exact ⟨_, rfl, rfl, hH⟩

set_option maxHeartbeats 1000000 in
theorem dec7_any {w0 : World} (v : Value) (l : Bs) (hr : By [] w0 v l) (hl : l.length ≤ 1048576) (n h : Nat) (hn : R7 n h) :
    Calls Tryd.prog 76 #[v, I n, I h] w0 (Ret fun r w' => ∃ u x N1 N2, r = .tuple #[.agg #[I (decK n h l).1.1, u, x], I (decK n h l).2] ∧ OwD 24 u (decK n h l).1.2.1 N1 ∧ OwD 24 x (decK n h l).1.2.2 N2 ∧ HS [] w0 w' [N1, N2]) := by
 have hH := HS.start w0
 refine start (n := 67) (E := [(0, _), (1, _), (2, _)]) Tryd.func76 rfl rfl rfl (args_look rfl) ?_
 intro a hA
 have hn5 := hn.1
 have hn1 := hn.1.1
 have hn2 := hn.1.2
 have hh6 : h ≤ 6 := by have := hn.2.2; omega
 have h64 := pow_le64 hh6
 obtain ⟨S0, hS0⟩ : ∃ x, x = (rNum 18446744073709551615 (l, 0)) := ⟨_, rfl⟩
 refine wp_seq_k fun K1 hK1 => ?_
 refine wp_region_lit ?_
 refine sl hA (lo_allocA hH ti27) rfl ?_
 clear hH; rintro _ w ⟨b_t6, rfl, hH⟩ a hA
 refine asg hA fun a hA => ?_
 refine wpList_nil ?_
 refine hK1 _ _ ?_
 clear hK1
 refine wp_seq_k fun K2 hK2 => ?_
 refine wp_seq_k fun K3 hK3 => ?_
 refine wp_region_lit ?_
 refine mv hA fun a hA => ?_
 refine mv hA fun a hA => ?_
 refine sl hA (lo_call fn64 rfl (right7_any _ _)) rfl ?_
 rintro _ w ⟨rfl, hC⟩ a hA
 replace hH := HS.call0 hH hC
 clear hC
 replace hA := hA.decT (by exact hn)
 refine sq hA (q_not rfl) rfl fun a hA => ?_
 refine wpList_nil ?_
 refine hK3 _ _ ?_
 clear hK3
 replace hA := hA.s6 18 7 6 0 1 2
 refine cond_f hA rfl ?_
 refine wp_skip ?_
 refine hK2 _ _ ?_
 clear hK2
 replace hA := hA.s5 7 6 0 1 2
 refine wp_seq_k fun K4 hK4 => ?_
 refine wp_region_lit ?_
 refine mv hA fun a hA => ?_
 refine sl hA (lo_call fn73 rfl (read_any _ _ (hH.rd hr) (by first | omega | (simp; done) | (simp; omega)))) rfl ?_
 rintro _ w ⟨b_t21, v_d21, N_d21, rfl, hO_d21, hC⟩ a hA
 replace hH := HS.call0 hH hC
 clear hC
 refine asg hA fun a hA => ?_
 refine wpList_nil ?_
 refine hK4 _ _ ?_
 clear hK4
 replace hA := hA.s5 8 7 6 1 2
 refine wp_seq_k fun K5 hK5 => ?_
 refine wp_region_lit ?_
 refine mv hA fun a hA => ?_
 refine sl hA (lo_call fn85 rfl (rnum_any b_t21 _ _ _ _ (Own.rdM hO_d21 (Ns1 := [_]) hH 0 rfl) (Nat.zero_le _) (by omega) 18446744073709551615#64 18446744073709551615 (by decide) (HS.handed (Ns1 := [_]) hH))) rfl ?_
 rintro _ w ⟨k, rfl, hk, hd, hC⟩ a hA
 replace hH := HS.call (Ns1 := [_]) hH hC
 clear hC
 rw [List.drop_zero, ← hS0] at hA hH hd
 refine asg hA fun a hA => ?_
 refine wpList_nil ?_
 refine hK5 _ _ ?_
 clear hK5
 replace hA := hA.s6 9 8 7 6 1 2
 refine wp_seq_k fun K6 hK6 => ?_
 replace hH := HS.fold [] [_, _, _] hH
 obtain ⟨NR7, hNR7, hH⟩ := hH
 have hJ8 : ∀ a w, (∃ v_t26 : Value, ∃ v_t28 : Value, ∃ N_t26 : Hl, ∃ N_t28 : Hl, ∃ b_t10 : Nat, At 67 [(9, (U64 S0.1)), (8, (.pointer (some ⟨b_t21, 0, none⟩))), (7, (I 0)), (6, (.pointer (some ⟨b_t6, 0, none⟩))), (2, (I h)), (10, (.pointer (some ⟨b_t10, 0, none⟩)))] a ∧ HS [] w0 w ([N_t26, N_t28, [(b_t10, Obj.cells [I 0, v_t26, v_t28].toArray 27 (0, 0))], NR7]) ∧ (OwD 24 v_t26 (List.replicate (2 * n) Z32) N_t26) ∧ (OwD 24 v_t28 (List.replicate h Z32) N_t28)) → K6 a w := by
  clear hA hH
  rintro a w ⟨v_t26, v_t28, N_t26, N_t28, b_t10, hA, hH, hO_t26, hO_t28⟩
  replace hH := HS.unfold [_, _, _] hNR7 hH
  refine hK6 _ _ ?_
  clear hK6
  refine wp_seq_k fun K9 hK9 => ?_
  refine wp_seq_k fun K10 hK10 => ?_
  refine wp_region_lit ?_
  refine sq hA (q_fld 1 Tryd.underlying27 rfl rfl ti25 rfl) rfl fun a hA => ?_
  refine sq hA (q_loadB hH 2 rfl (List.mem_singleton.2 rfl) Tryd.underlying25 rfl rfl rfl) rfl fun a hA => ?_
  refine sq hA (q_fld 2 Tryd.underlying27 rfl rfl ti25 rfl) rfl fun a hA => ?_
  refine sq hA (q_loadB hH 2 rfl (List.mem_singleton.2 rfl) Tryd.underlying25 rfl rfl rfl) rfl fun a hA => ?_
  refine sl hA (lo_build2 hH Tryd.underlying154 ti25 rfl rfl (Own.one hO_t26) (Own.one hO_t28)) rfl ?_
  clear hH; rintro v_t34 w ⟨N_t34, hO_t34, hH⟩ a hA
  refine sq hA (q_len Tryd.underlying154 rfl (Own.shp hO_t34)) rfl fun a hA => ?_
  refine mv hA fun a hA => ?_
  refine wpList_nil ?_
  refine hK10 _ _ ?_
  clear hK10
  replace hA := hA.s9 36 35 34 9 8 7 6 2 10
  refine wp_block ?_
  replace hH := hH.pick [4, 5, 1, 2, 0, 3, 6] (Hs' := [_, _, _, _, _, _, _]) rfl
  replace hH := HS.fold [_, _, _, _, _] [_, _] hH
  obtain ⟨NR11, hNR11, hH⟩ := hH
  refine wp_loop_ghost (fun gm a w => ∃ i : Nat, ∃ k : Nat, ∃ e : Nat, ∃ N_a : Hl, ∃ N_b : Hl, At 67 [(36, I i), (35, I 2), (34, v_t34), (9, (U64 S0.1)), (8, (.pointer (some ⟨b_t21, 0, none⟩))), (7, (I 0)), (6, (.pointer (some ⟨b_t6, 0, none⟩))), (2, (I h)), (10, (.pointer (some ⟨b_t10, 0, none⟩)))] a ∧ HS [] w0 w ([[(b_t21, Obj.cells [v_d21, I (k), I (e)].toArray 167 (0, 0))], N_d21, N_a, N_b, N_t34, NR11]) ∧ (i ≤ 2) ∧ (k ≤ l.length) ∧ (l.drop k = (stD n h S0.2 i).1) ∧ (e = (stD n h S0.2 i).2) ∧ (OwD 24 v_t26 (rowA n S0.2 i) N_a) ∧ (OwD 24 v_t28 (rowB n h S0.2 i) N_b) ∧ gm = 2 - i) (2 - (0)) ⟨0, k, _, N_t26, N_t28, hA.sub ⟨rfl, rfl, rfl, rfl, rfl, rfl, rfl, rfl, rfl, trivial⟩, hH, by omega, by exact hk, by exact hd, by rfl, by exact hO_t26, by exact hO_t28, rfl⟩ ?_
  clear hA hH
  rintro gm a w ⟨i, k, e, N_a, N_b, hA, hH, hi, hk, hd, he, hO_a, hO_b, rfl⟩
  refine wp_seq_k fun K12 hK12 => ?_
  refine wp_region_lit ?_
  refine sq hA (q_lssI rfl rfl) rfl fun a hA => ?_
  refine wpList_nil ?_
  refine hK12 _ _ ?_
  clear hK12
  refine wp_seq_k fun K13 hK13 => ?_
  refine cond_d hA rfl (fun hc37 => ?_) (fun hc37 => ?_)
  ·skip
   refine wp_skip ?_
   refine hK13 _ _ ?_
   clear hK13
   refine wp_seq_k fun K14 hK14 => ?_
   refine wp_block ?_
   refine wp_seq_k fun K15 hK15 => ?_
   refine wp_region_lit ?_
   refine sq hA (q_idx1 (i) Tryd.underlying154 ti25 rfl rfl (by first | omega | rfl) (Own.shp hO_t34) (by first | omega | (simp; done) | (simp; omega) | (rw [List.length_map]; assumption) | assumption | rfl | (simp [*]; done) | (simp [*]; omega))) rfl fun a hA => ?_
   rcases (show i = 0 ∨ i = 1 by omega) with rfl | rfl
   ·skip
    refine sq hA (q_loadR Tryd.underlying25 rfl rfl (Own.rd0 hO_t34 hH 4 rfl) (by omega) rfl) rfl fun a hA => ?_
    refine asg hA fun a hA => ?_
    refine wpList_nil ?_
    refine hK15 _ _ ?_
    clear hK15
    refine wp_seq_k fun K16 hK16 => ?_
    refine wp_region_lit ?_
    refine mv hA fun a hA => ?_
    refine sq hA (q_len Tryd.underlying25 rfl (Own.shp hO_a)) rfl fun a hA => ?_
    rw [show ((rowA n S0.2 0).length : Int) = ((2 * n : Nat) : Int) by simp [rowA, rowB]] at hA
    refine mv hA fun a hA => ?_
    refine wpList_nil ?_
    refine hK16 _ _ ?_
    clear hK16
    refine wp_block ?_
    replace hH := HS.fold [_, _, _] [_, _, _] hH
    obtain ⟨NR17, hNR17, hH⟩ := hH
    refine wp_loop_ghost (fun gm a w => ∃ j : Nat, ∃ k : Nat, ∃ e : Nat, ∃ N_a : Hl, At 67 [(42, I j), (41, I ((2 * n) : Nat)), (40, v_t26), (12, v_t26), (39, v_t26), (36, I ((0 : Nat) : Int)), (35, (I 2)), (34, v_t34), (9, (U64 S0.1)), (8, (.pointer (some ⟨b_t21, 0, none⟩))), (7, (I 0)), (6, (.pointer (some ⟨b_t6, 0, none⟩))), (2, (I h)), (10, (.pointer (some ⟨b_t10, 0, none⟩)))] a ∧ HS [] w0 w ([[(b_t21, Obj.cells [v_d21, I (k), I (e)].toArray 167 (0, 0))], N_d21, N_a, NR17]) ∧ (j ≤ (2 * n)) ∧ (k ≤ l.length) ∧ (l.drop k = (rDigs j S0.2).2.1) ∧ (e = (rDigs j S0.2).2.2) ∧ (OwD 24 v_t26 (rowTo (2 * n) S0.2 j) N_a) ∧ gm = (2 * n) - j) ((2 * n) - (0)) ⟨0, k, e, N_a, hA.sub ⟨rfl, rfl, rfl, rfl, rfl, rfl, rfl, rfl, rfl, rfl, rfl, rfl, rfl, rfl, trivial⟩, hH, by omega, by exact hk, by exact hd, by exact he, by (rw [rowTo_zero]; exact hO_a), rfl⟩ ?_
    clear hA hH
    rintro gm a w ⟨j, k, e, N_a, hA, hH, hj, hk, hd, he, hO_a, rfl⟩
    have eS : (l.drop k, e) = (rDigs j S0.2).2 := Prod.ext hd he
    have hrl := rowTo_len (2 * n) S0.2 hj
    have hrd := rowTo_dg (2 * n) S0.2 j
    refine wp_seq_k fun K18 hK18 => ?_
    refine wp_region_lit ?_
    refine sq hA (q_lssI rfl rfl) rfl fun a hA => ?_
    refine wpList_nil ?_
    refine hK18 _ _ ?_
    clear hK18
    refine wp_seq_k fun K19 hK19 => ?_
    refine cond_d hA rfl (fun hc43 => ?_) (fun hc43 => ?_)
    ·skip
     refine wp_skip ?_
     refine hK19 _ _ ?_
     clear hK19
     refine wp_seq_k fun K20 hK20 => ?_
     refine wp_block ?_
     refine wp_seq_k fun K21 hK21 => ?_
     refine wp_region_lit ?_
     refine mv hA fun a hA => ?_
     refine asg hA fun a hA => ?_
     refine wpList_nil ?_
     refine hK21 _ _ ?_
     clear hK21
     refine wp_region_lit ?_
     refine mv hA fun a hA => ?_
     refine mv hA fun a hA => ?_
     refine mv hA fun a hA => ?_
     refine sl hA (lo_call fn86 rfl (rdig_any b_t21 _ _ _ _ (Own.rdM hO_d21 (Ns1 := [_]) hH 0 rfl) (by assumption) (by omega) (HS.handed (Ns1 := [_]) hH))) rfl ?_
     rintro _ w ⟨k_t48, rfl, hk_t48, hd_t48, hC⟩ a hA
     replace hH := HS.call (Ns1 := [_]) hH hC
     clear hC
     refine sq hA (q_idxk (j) Tryd.underlying25 ti24 rfl rfl (by first | omega | rfl) (Own.shp hO_a) (by first | omega | (simp; done) | (simp; omega) | (rw [List.length_map]; assumption) | assumption | rfl | (simp [*]; done) | (simp [*]; omega))) rfl fun a hA => ?_
     replace hH := hH.pick [2, 0, 1, 3] (Hs' := [_, _, _, _]) rfl
     refine s0 hA (lo_storeD hH hO_a (hrd) ti24 rfl rfl (by rw [hrl]; omega) (rDig_length _)) ?_
     clear hH; rintro _ w ⟨N_a, hO_a, hH⟩
     refine wpList_nil ?_
     refine block_normal ?_
     refine hK20 _ _ ?_
     clear hK20
     refine wp_region_lit ?_
     refine sq hA (q_addI (n := 1) rfl rfl (by omega)) rfl fun a hA => ?_
     refine mv hA fun a hA => ?_
     refine wpList_nil ?_
     replace hH := hH.pick [1, 2, 0, 3] (Hs' := [_, _, _, _]) rfl
     exact ⟨_, by omega, j + 1, k_t48, _, N_a, hA.sub ⟨rfl, rfl, rfl, rfl, rfl, rfl, rfl, rfl, rfl, rfl, rfl, rfl, rfl, rfl, trivial⟩, hH, by omega, by exact hk_t48, by (rw [hd_t48, eS]; rfl), by (rw [eS]; rfl), by (rw [eS] at hO_a; rw [rowTo_set _ _ (by omega)] at hO_a; exact hO_a), rfl⟩
    ·skip
     obtain rfl : (2 * n) = j := by omega
     rw [rowTo_end] at hO_a
     refine wp_exit ?_
     refine then_exit ?_
     replace hH := HS.unfold [_, _, _] hNR17 hH
     refine then_exit ?_
     refine exit_here ?_
     refine block_normal ?_
     refine hK14 _ _ ?_
     clear hK14
     refine wp_region_lit ?_
     refine sq hA (q_addI (n := 1) rfl rfl (by omega)) rfl fun a hA => ?_
     refine mv hA fun a hA => ?_
     refine wpList_nil ?_
     exact ⟨_, by omega, 1, k, e, N_a, N_b, hA.sub ⟨rfl, rfl, rfl, rfl, rfl, rfl, rfl, rfl, rfl, trivial⟩, hH, by omega, by exact hk, by exact hd, by exact he, by exact hO_a, by exact hO_b, rfl⟩
   ·skip
    refine sq hA (q_loadR Tryd.underlying25 rfl rfl (Own.rd0 hO_t34 hH 4 rfl) (by omega) rfl) rfl fun a hA => ?_
    refine asg hA fun a hA => ?_
    refine wpList_nil ?_
    refine hK15 _ _ ?_
    clear hK15
    refine wp_seq_k fun K22 hK22 => ?_
    refine wp_region_lit ?_
    refine mv hA fun a hA => ?_
    refine sq hA (q_len Tryd.underlying25 rfl (Own.shp hO_b)) rfl fun a hA => ?_
    rw [show ((rowB n h S0.2 1).length : Int) = ((h : Nat) : Int) by simp [rowA, rowB]] at hA
    refine mv hA fun a hA => ?_
    refine wpList_nil ?_
    refine hK22 _ _ ?_
    clear hK22
    refine wp_block ?_
    replace hH := hH.pick [0, 1, 3, 2, 4, 5] (Hs' := [_, _, _, _, _, _]) rfl
    replace hH := HS.fold [_, _, _] [_, _, _] hH
    obtain ⟨NR23, hNR23, hH⟩ := hH
    refine wp_loop_ghost (fun gm a w => ∃ j : Nat, ∃ k : Nat, ∃ e : Nat, ∃ N_b : Hl, At 67 [(42, I j), (41, I (h : Nat)), (40, v_t28), (12, v_t28), (39, v_t28), (36, I ((1 : Nat) : Int)), (35, (I 2)), (34, v_t34), (9, (U64 S0.1)), (8, (.pointer (some ⟨b_t21, 0, none⟩))), (7, (I 0)), (6, (.pointer (some ⟨b_t6, 0, none⟩))), (2, (I h)), (10, (.pointer (some ⟨b_t10, 0, none⟩)))] a ∧ HS [] w0 w ([[(b_t21, Obj.cells [v_d21, I (k), I (e)].toArray 167 (0, 0))], N_d21, N_b, NR23]) ∧ (j ≤ h) ∧ (k ≤ l.length) ∧ (l.drop k = (rDigs j (rDigs (2 * n) S0.2).2).2.1) ∧ (e = (rDigs j (rDigs (2 * n) S0.2).2).2.2) ∧ (OwD 24 v_t28 (rowTo h (rDigs (2 * n) S0.2).2 j) N_b) ∧ gm = h - j) (h - (0)) ⟨0, k, e, N_b, hA.sub ⟨rfl, rfl, rfl, rfl, rfl, rfl, rfl, rfl, rfl, rfl, rfl, rfl, rfl, rfl, trivial⟩, hH, by omega, by exact hk, by exact hd, by exact he, by (rw [rowTo_zero]; exact hO_b), rfl⟩ ?_
    clear hA hH
    rintro gm a w ⟨j, k, e, N_b, hA, hH, hj, hk, hd, he, hO_b, rfl⟩
    have eS : (l.drop k, e) = (rDigs j (rDigs (2 * n) S0.2).2).2 := Prod.ext hd he
    have hrl := rowTo_len h (rDigs (2 * n) S0.2).2 hj
    have hrd := rowTo_dg h (rDigs (2 * n) S0.2).2 j
    refine wp_seq_k fun K24 hK24 => ?_
    refine wp_region_lit ?_
    refine sq hA (q_lssI rfl rfl) rfl fun a hA => ?_
    refine wpList_nil ?_
    refine hK24 _ _ ?_
    clear hK24
    refine wp_seq_k fun K25 hK25 => ?_
    refine cond_d hA rfl (fun hc43 => ?_) (fun hc43 => ?_)
    ·skip
     refine wp_skip ?_
     refine hK25 _ _ ?_
     clear hK25
     refine wp_seq_k fun K26 hK26 => ?_
     refine wp_block ?_
     refine wp_seq_k fun K27 hK27 => ?_
     refine wp_region_lit ?_
     refine mv hA fun a hA => ?_
     refine asg hA fun a hA => ?_
     refine wpList_nil ?_
     refine hK27 _ _ ?_
     clear hK27
     refine wp_region_lit ?_
     refine mv hA fun a hA => ?_
     refine mv hA fun a hA => ?_
     refine mv hA fun a hA => ?_
     refine sl hA (lo_call fn86 rfl (rdig_any b_t21 _ _ _ _ (Own.rdM hO_d21 (Ns1 := [_]) hH 0 rfl) (by assumption) (by omega) (HS.handed (Ns1 := [_]) hH))) rfl ?_
     rintro _ w ⟨k_t48, rfl, hk_t48, hd_t48, hC⟩ a hA
     replace hH := HS.call (Ns1 := [_]) hH hC
     clear hC
     refine sq hA (q_idxk (j) Tryd.underlying25 ti24 rfl rfl (by first | omega | rfl) (Own.shp hO_b) (by first | omega | (simp; done) | (simp; omega) | (rw [List.length_map]; assumption) | assumption | rfl | (simp [*]; done) | (simp [*]; omega))) rfl fun a hA => ?_
     replace hH := hH.pick [2, 0, 1, 3] (Hs' := [_, _, _, _]) rfl
     refine s0 hA (lo_storeD hH hO_b (hrd) ti24 rfl rfl (by rw [hrl]; omega) (rDig_length _)) ?_
     clear hH; rintro _ w ⟨N_b, hO_b, hH⟩
     refine wpList_nil ?_
     refine block_normal ?_
     refine hK26 _ _ ?_
     clear hK26
     refine wp_region_lit ?_
     refine sq hA (q_addI (n := 1) rfl rfl (by omega)) rfl fun a hA => ?_
     refine mv hA fun a hA => ?_
     refine wpList_nil ?_
     replace hH := hH.pick [1, 2, 0, 3] (Hs' := [_, _, _, _]) rfl
     exact ⟨_, by omega, j + 1, k_t48, _, N_b, hA.sub ⟨rfl, rfl, rfl, rfl, rfl, rfl, rfl, rfl, rfl, rfl, rfl, rfl, rfl, rfl, trivial⟩, hH, by omega, by exact hk_t48, by (rw [hd_t48, eS]; rfl), by (rw [eS]; rfl), by (rw [eS] at hO_b; rw [rowTo_set _ _ (by omega)] at hO_b; exact hO_b), rfl⟩
    ·skip
     obtain rfl : h = j := by omega
     rw [rowTo_end] at hO_b
     refine wp_exit ?_
     refine then_exit ?_
     replace hH := HS.unfold [_, _, _] hNR23 hH
     refine then_exit ?_
     refine exit_here ?_
     refine block_normal ?_
     refine hK14 _ _ ?_
     clear hK14
     refine wp_region_lit ?_
     refine sq hA (q_addI (n := 1) rfl rfl (by omega)) rfl fun a hA => ?_
     refine mv hA fun a hA => ?_
     refine wpList_nil ?_
     replace hH := hH.pick [0, 1, 3, 2, 4, 5] (Hs' := [_, _, _, _, _, _]) rfl
     exact ⟨_, by omega, 2, k, e, N_a, N_b, hA.sub ⟨rfl, rfl, rfl, rfl, rfl, rfl, rfl, rfl, rfl, trivial⟩, hH, by omega, by exact hk, by exact hd, by exact he, by exact hO_a, by exact hO_b, rfl⟩
  ·skip
   obtain rfl : i = 2 := by omega
   have eS : (l.drop k, e) = stD n h S0.2 2 := Prod.ext hd he
   refine wp_exit ?_
   refine then_exit ?_
   replace hH := HS.unfold [_, _, _, _, _] hNR11 hH
   refine then_exit ?_
   refine exit_here ?_
   refine hK9 _ _ ?_
   clear hK9
   replace hA := hA.s6 9 8 7 6 2 10
   refine wp_seq_k fun K28 hK28 => ?_
   refine wp_seq_k fun K29 hK29 => ?_
   refine wp_region_lit ?_
   refine mv hA fun a hA => ?_
   refine sl hA (lo_call fn75 rfl (rend_any b_t21 _ _ _ _ (Own.rdM hO_d21 (Ns1 := [_]) hH 0 rfl) (by assumption) (by omega) (HS.handed (Ns1 := [_]) hH))) rfl ?_
   rintro _ w ⟨rfl, hC⟩ a hA
   replace hH := HS.call (Ns1 := [_]) hH hC
   clear hC
   refine asg hA fun a hA => ?_
   refine wpList_nil ?_
   refine hK29 _ _ ?_
   clear hK29
   replace hA := hA.s6 14 9 7 6 2 10
   refine wp_seq_k fun K30 hK30 => ?_
   refine wp_region_lit ?_
   refine mv hA fun a hA => ?_
   refine sq hA (q_neqI (n := 0) rfl rfl) rfl fun a hA => ?_
   refine wpList_nil ?_
   refine hK30 _ _ ?_
   clear hK30
   replace hA := hA.s7 55 14 9 7 6 2 10
   refine cond_d hA rfl (fun hc55 => ?_) (fun hc55 => ?_)
   ·skip
    have hR : decK n h l = _ := decK_1 (by rw [← hS0, ← eS]; omega)
    rw [← hS0, ← eS] at hR
    refine wp_seq_k fun K31 hK31 => ?_
    refine wp_region_lit ?_
    refine sq hA (q_build (v := (.agg ([(I 0), (.slice none 0 0), (.slice none 0 0)]).toArray)) (vs := []) rfl (fun w => by kernel_rfl)) rfl fun a hA => ?_
    refine mv hA fun a hA => ?_
    replace hH := hH.pick [6, 0, 1, 2, 3, 4, 5] (Hs' := [_, _, _, _, _, _, _]) rfl
    refine s0 hA (lo_storeAm hH ti27 rfl rfl (rfl) (rfl) (ones_cons rfl (ones_cons rfl (ones_cons rfl ones_nil)))) ?_
    clear hH; rintro _ w hH
    refine asg hA fun a hA => ?_
    refine wpList_nil ?_
    refine hK31 _ _ ?_
    clear hK31
    replace hA := hA.s5 7 9 6 2 10
    refine wp_ret ?_
    refine then_ret ?_
    refine post_ret hA (res_c1 rfl hA rfl rfl (resW hH 0 rfl Tryd.underlying27 rfl ti27 (by first | assumption | (rw [List.length_map]; assumption) | rfl | exact sha_length _ | (simp; done) | (simp [*]; done) | omega))) ?_
    replace hH := hH.pick [] (Hs' := []) rfl
    refine ⟨_, rfl, ?_⟩
    rw [hR]
    exact ⟨nilV, nilV, [], [], rfl, OwD.nil _, OwD.nil _, hH.nilFront.nilFront⟩
   ·skip
    have hE0 : ¬ (rEnd (stD n h (rNum 18446744073709551615 (l, 0)).2 2)).1 ≠ 0 := by rw [← hS0, ← eS]; omega
    refine wp_skip ?_
    refine hK28 _ _ ?_
    clear hK28
    replace hA := hA.s5 9 7 6 2 10
    refine wp_seq_k fun K32 hK32 => ?_
    refine wp_seq_k fun K33 hK33 => ?_
    refine wp_region_lit ?_
    refine mv hA fun a hA => ?_
    refine mv hA fun a hA => ?_
    refine sq hA (q_shl64 (p := 1#64) (n := h) rfl rfl) rfl fun a hA => ?_
    refine sq hA (q_geq64 rfl rfl) rfl fun a hA => ?_
    refine wpList_nil ?_
    refine hK33 _ _ ?_
    clear hK33
    replace hA := hA.s5 61 9 7 6 10
    refine cond_d hA rfl (fun hc61 => ?_) (fun hc61 => ?_)
    ·skip
     rw [sh64 hh6] at hc61
     have hR : decK n h l = _ := decK_2 hE0 (by rw [← hS0]; exact hc61)
     refine wp_seq_k fun K34 hK34 => ?_
     refine wp_region_lit ?_
     refine sq hA (q_build (v := (.agg ([(I 0), (.slice none 0 0), (.slice none 0 0)]).toArray)) (vs := []) rfl (fun w => by kernel_rfl)) rfl fun a hA => ?_
     replace hH := hH.pick [6, 0, 1, 2, 3, 4, 5] (Hs' := [_, _, _, _, _, _, _]) rfl
     refine s0 hA (lo_storeAm hH ti27 rfl rfl (rfl) (rfl) (ones_cons rfl (ones_cons rfl (ones_cons rfl ones_nil)))) ?_
     clear hH; rintro _ w hH
     refine asg hA fun a hA => ?_
     refine wpList_nil ?_
     refine hK34 _ _ ?_
     clear hK34
     replace hA := hA.s4 7 9 6 10
     refine wp_ret ?_
     refine then_ret ?_
     refine post_ret hA (res_c1 rfl hA rfl rfl (resW hH 0 rfl Tryd.underlying27 rfl ti27 (by first | assumption | (rw [List.length_map]; assumption) | rfl | exact sha_length _ | (simp; done) | (simp [*]; done) | omega))) ?_
     replace hH := hH.pick [] (Hs' := []) rfl
     refine ⟨_, rfl, ?_⟩
     rw [hR]
     exact ⟨nilV, nilV, [], [], rfl, OwD.nil _, OwD.nil _, hH.nilFront.nilFront⟩
    ·skip
     rw [sh64 hh6] at hc61
     have hR : decK n h l = _ := decK_3 hE0 (by rw [← hS0]; exact hc61)
     rw [← hS0] at hR
     refine wp_skip ?_
     refine hK32 _ _ ?_
     clear hK32
     replace hA := hA.s4 9 7 6 10
     refine wp_seq_k fun K35 hK35 => ?_
     refine wp_region_lit ?_
     refine mv hA fun a hA => ?_
     refine sq hA (q_cv64_I Tryd.underlying99 Tryd.underlying3 rfl (by omega)) rfl fun a hA => ?_
     refine sq hA (q_fld 0 Tryd.underlying27 rfl rfl ti3 rfl) rfl fun a hA => ?_
     replace hH := hH.pick [5, 0, 1, 2, 3, 4, 6] (Hs' := [_, _, _, _, _, _, _]) rfl
     refine s0 hA (lo_store1 hH ti3 rfl rfl ((show 0 < 3 by decide)) rfl) ?_
     clear hH; rintro _ w hH
     refine wpList_nil ?_
     refine hK35 _ _ ?_
     clear hK35
     replace hA := hA.s3 7 6 10
     refine wp_seq_k fun K36 hK36 => ?_
     refine wp_region_lit ?_
     refine sq hA (q_loadW hH 0 rfl Tryd.underlying27 rfl ti27 rfl (by first | omega | (simp; done) | (simp; omega) | (rw [List.length_map]; assumption) | assumption | rfl | (simp [*]; done) | (simp [*]; omega))) rfl fun a hA => ?_
     replace hH := hH.pick [6, 0, 1, 2, 3, 4, 5] (Hs' := [_, _, _, _, _, _, _]) rfl
     refine s0 hA (lo_storeAm hH ti27 rfl rfl (rfl) (rfl) (ones_cons rfl (ones_cons (Own.one hO_t26) (ones_cons (Own.one hO_t28) ones_nil)))) ?_
     clear hH; rintro _ w hH
     refine asg hA fun a hA => ?_
     refine wpList_nil ?_
     refine hK36 _ _ ?_
     clear hK36
     replace hA := hA.s2 7 6
     refine wp_ret ?_
     refine post_ret hA (res_c1 rfl hA rfl rfl (resW hH 0 rfl Tryd.underlying27 rfl ti27 (by first | assumption | (rw [List.length_map]; assumption) | rfl | exact sha_length _ | (simp; done) | (simp [*]; done) | omega))) ?_
     replace hH := hH.pick [4, 5, 0, 1, 2, 3, 6] (Hs' := [_, _, _, _, _, _, _]) rfl
     replace hH := hH.pick [0, 1] (Hs' := [_, _]) rfl
     refine ⟨_, rfl, ?_⟩
     rw [hR]
     exact ⟨v_t26, v_t28, N_a, N_b, rfl, hO_a, hO_b, hH⟩
 refine any_go mixed (fun j => !(Nat.beq j 2 || Nat.beq j 4 || Nat.beq j 6 || Nat.beq j 7)) hH ?_
 clear hH; intro w hH
 have hS := hH
 refine any_l 8 ?_
 refine p0 hA 0 1 rfl (fun w => (q_move rfl)) fun a hA => ?_
 refine p0 hA 1 3 rfl (fun w => (q_mulI (m := 2) rfl rfl (by omega))) fun a hA => ?_
 refine p0 hA 3 11 rfl (fun w => (q_move rfl)) fun a hA => ?_
 refine a_ch3 (i := 2) (j := 4) (k := 6) (by kernel_rfl) ?_ ?_ ?_
 ·skip
  refine o1n hA 2 15 rfl (lo_make (n := 2 * n) hH Tryd.underlying25 ti24 rfl rfl rfl (by omega) (by omega) (by omega)) ?_
  clear hH; rintro v_t26 w ⟨N_t26, hO_t26, hH⟩
  replace hO_t26 := OwD.make hO_t26 rfl
  intro a hA
  refine a_ch2 (i := 4) (j := 6) (by kernel_rfl) ?_ ?_
  ·skip
   refine o1n hA 4 31 rfl (lo_make (n := h) hH Tryd.underlying25 ti24 rfl rfl rfl (by omega) (by omega) (by omega)) ?_
   clear hH; rintro v_t28 w ⟨N_t28, hO_t28, hH⟩
   replace hO_t28 := OwD.make hO_t28 rfl
   intro a hA
   refine p0 hA 5 63 rfl (fun w => (q_buildC (css := [[v_t26], [v_t28]]) (z := [(I 0), (.slice none 0 0), (.slice none 0 0)]) (BT.mk (pl := [(0, 1), (1, 1), (2, 1)]) (it := Tryd.t27) (by kernel_rfl) Tryd.underlying27 (by kernel_rfl) (by kernel_rfl)) rfl ⟨cells_one (Own.one hO_t26), ⟨_, rfl, by first | rfl | (simp [Value.cells]; done) | (simp [Value.cells, *]; done), by decide⟩, cells_one (Own.one hO_t28), ⟨_, rfl, by first | rfl | (simp [Value.cells]; done) | (simp [Value.cells, *]; done), by decide⟩, trivial⟩)) fun a hA => ?_
   refine a1n hA 6 127 rfl (lo_allocA hH ti27) ?_
   clear hH; rintro _ w ⟨b_t10, rfl, hH⟩
   intro a hA
   refine a0n hA 7 255 rfl (lo_storeAm hH ti27 rfl rfl (rfl) (rfl) (ones_cons rfl (ones_cons (Own.one hO_t26) (ones_cons (Own.one hO_t28) ones_nil)))) ?_
   clear hH; rintro _ w hH
   refine a_end (by kernel_rfl) ?_ _
   replace hH := hH.pick [2, 1, 0, 3] (Hs' := [_, _, _, _]) rfl
   exact hJ8 _ _ ⟨v_t26, v_t28, N_t26, N_t28, b_t10, hA.sub ⟨rfl, rfl, rfl, rfl, rfl, rfl, trivial⟩, hH, by exact hO_t26, by exact hO_t28⟩
  ·skip
   refine o1n hA 6 79 rfl (lo_allocA hH ti27) ?_
   clear hH; rintro _ w ⟨b_t10, rfl, hH⟩
   intro a hA
   refine a1n hA 4 95 rfl (lo_make (n := h) hH Tryd.underlying25 ti24 rfl rfl rfl (by omega) (by omega) (by omega)) ?_
   clear hH; rintro v_t28 w ⟨N_t28, hO_t28, hH⟩
   replace hO_t28 := OwD.make hO_t28 rfl
   intro a hA
   refine p0 hA 5 127 rfl (fun w => (q_buildC (css := [[v_t26], [v_t28]]) (z := [(I 0), (.slice none 0 0), (.slice none 0 0)]) (BT.mk (pl := [(0, 1), (1, 1), (2, 1)]) (it := Tryd.t27) (by kernel_rfl) Tryd.underlying27 (by kernel_rfl) (by kernel_rfl)) rfl ⟨cells_one (Own.one hO_t26), ⟨_, rfl, by first | rfl | (simp [Value.cells]; done) | (simp [Value.cells, *]; done), by decide⟩, cells_one (Own.one hO_t28), ⟨_, rfl, by first | rfl | (simp [Value.cells]; done) | (simp [Value.cells, *]; done), by decide⟩, trivial⟩)) fun a hA => ?_
   replace hH := hH.pick [1, 0, 2, 3] (Hs' := [_, _, _, _]) rfl
   refine a0n hA 7 255 rfl (lo_storeAm hH ti27 rfl rfl (rfl) (rfl) (ones_cons rfl (ones_cons (Own.one hO_t26) (ones_cons (Own.one hO_t28) ones_nil)))) ?_
   clear hH; rintro _ w hH
   refine a_end (by kernel_rfl) ?_ _
   replace hH := hH.pick [2, 1, 0, 3] (Hs' := [_, _, _, _]) rfl
   exact hJ8 _ _ ⟨v_t26, v_t28, N_t26, N_t28, b_t10, hA.sub ⟨rfl, rfl, rfl, rfl, rfl, rfl, trivial⟩, hH, by exact hO_t26, by exact hO_t28⟩
 ·skip
  refine o1n hA 4 27 rfl (lo_make (n := h) hH Tryd.underlying25 ti24 rfl rfl rfl (by omega) (by omega) (by omega)) ?_
  clear hH; rintro v_t28 w ⟨N_t28, hO_t28, hH⟩
  replace hO_t28 := OwD.make hO_t28 rfl
  intro a hA
  refine a_ch2 (i := 2) (j := 6) (by kernel_rfl) ?_ ?_
  ·skip
   refine o1n hA 2 31 rfl (lo_make (n := 2 * n) hH Tryd.underlying25 ti24 rfl rfl rfl (by omega) (by omega) (by omega)) ?_
   clear hH; rintro v_t26 w ⟨N_t26, hO_t26, hH⟩
   replace hO_t26 := OwD.make hO_t26 rfl
   intro a hA
   refine p0 hA 5 63 rfl (fun w => (q_buildC (css := [[v_t26], [v_t28]]) (z := [(I 0), (.slice none 0 0), (.slice none 0 0)]) (BT.mk (pl := [(0, 1), (1, 1), (2, 1)]) (it := Tryd.t27) (by kernel_rfl) Tryd.underlying27 (by kernel_rfl) (by kernel_rfl)) rfl ⟨cells_one (Own.one hO_t26), ⟨_, rfl, by first | rfl | (simp [Value.cells]; done) | (simp [Value.cells, *]; done), by decide⟩, cells_one (Own.one hO_t28), ⟨_, rfl, by first | rfl | (simp [Value.cells]; done) | (simp [Value.cells, *]; done), by decide⟩, trivial⟩)) fun a hA => ?_
   refine a1n hA 6 127 rfl (lo_allocA hH ti27) ?_
   clear hH; rintro _ w ⟨b_t10, rfl, hH⟩
   intro a hA
   refine a0n hA 7 255 rfl (lo_storeAm hH ti27 rfl rfl (rfl) (rfl) (ones_cons rfl (ones_cons (Own.one hO_t26) (ones_cons (Own.one hO_t28) ones_nil)))) ?_
   clear hH; rintro _ w hH
   refine a_end (by kernel_rfl) ?_ _
   replace hH := hH.pick [1, 2, 0, 3] (Hs' := [_, _, _, _]) rfl
   exact hJ8 _ _ ⟨v_t26, v_t28, N_t26, N_t28, b_t10, hA.sub ⟨rfl, rfl, rfl, rfl, rfl, rfl, trivial⟩, hH, by exact hO_t26, by exact hO_t28⟩
  ·skip
   refine o1n hA 6 91 rfl (lo_allocA hH ti27) ?_
   clear hH; rintro _ w ⟨b_t10, rfl, hH⟩
   intro a hA
   refine a1n hA 2 95 rfl (lo_make (n := 2 * n) hH Tryd.underlying25 ti24 rfl rfl rfl (by omega) (by omega) (by omega)) ?_
   clear hH; rintro v_t26 w ⟨N_t26, hO_t26, hH⟩
   replace hO_t26 := OwD.make hO_t26 rfl
   intro a hA
   refine p0 hA 5 127 rfl (fun w => (q_buildC (css := [[v_t26], [v_t28]]) (z := [(I 0), (.slice none 0 0), (.slice none 0 0)]) (BT.mk (pl := [(0, 1), (1, 1), (2, 1)]) (it := Tryd.t27) (by kernel_rfl) Tryd.underlying27 (by kernel_rfl) (by kernel_rfl)) rfl ⟨cells_one (Own.one hO_t26), ⟨_, rfl, by first | rfl | (simp [Value.cells]; done) | (simp [Value.cells, *]; done), by decide⟩, cells_one (Own.one hO_t28), ⟨_, rfl, by first | rfl | (simp [Value.cells]; done) | (simp [Value.cells, *]; done), by decide⟩, trivial⟩)) fun a hA => ?_
   replace hH := hH.pick [1, 0, 2, 3] (Hs' := [_, _, _, _]) rfl
   refine a0n hA 7 255 rfl (lo_storeAm hH ti27 rfl rfl (rfl) (rfl) (ones_cons rfl (ones_cons (Own.one hO_t26) (ones_cons (Own.one hO_t28) ones_nil)))) ?_
   clear hH; rintro _ w hH
   refine a_end (by kernel_rfl) ?_ _
   replace hH := hH.pick [1, 2, 0, 3] (Hs' := [_, _, _, _]) rfl
   exact hJ8 _ _ ⟨v_t26, v_t28, N_t26, N_t28, b_t10, hA.sub ⟨rfl, rfl, rfl, rfl, rfl, rfl, trivial⟩, hH, by exact hO_t26, by exact hO_t28⟩
 ·skip
  refine o1n hA 6 75 rfl (lo_allocA hH ti27) ?_
  clear hH; rintro _ w ⟨b_t10, rfl, hH⟩
  intro a hA
  refine a_ch2 (i := 2) (j := 4) (by kernel_rfl) ?_ ?_
  ·skip
   refine o1n hA 2 79 rfl (lo_make (n := 2 * n) hH Tryd.underlying25 ti24 rfl rfl rfl (by omega) (by omega) (by omega)) ?_
   clear hH; rintro v_t26 w ⟨N_t26, hO_t26, hH⟩
   replace hO_t26 := OwD.make hO_t26 rfl
   intro a hA
   refine a1n hA 4 95 rfl (lo_make (n := h) hH Tryd.underlying25 ti24 rfl rfl rfl (by omega) (by omega) (by omega)) ?_
   clear hH; rintro v_t28 w ⟨N_t28, hO_t28, hH⟩
   replace hO_t28 := OwD.make hO_t28 rfl
   intro a hA
   refine p0 hA 5 127 rfl (fun w => (q_buildC (css := [[v_t26], [v_t28]]) (z := [(I 0), (.slice none 0 0), (.slice none 0 0)]) (BT.mk (pl := [(0, 1), (1, 1), (2, 1)]) (it := Tryd.t27) (by kernel_rfl) Tryd.underlying27 (by kernel_rfl) (by kernel_rfl)) rfl ⟨cells_one (Own.one hO_t26), ⟨_, rfl, by first | rfl | (simp [Value.cells]; done) | (simp [Value.cells, *]; done), by decide⟩, cells_one (Own.one hO_t28), ⟨_, rfl, by first | rfl | (simp [Value.cells]; done) | (simp [Value.cells, *]; done), by decide⟩, trivial⟩)) fun a hA => ?_
   replace hH := hH.pick [2, 0, 1, 3] (Hs' := [_, _, _, _]) rfl
   refine a0n hA 7 255 rfl (lo_storeAm hH ti27 rfl rfl (rfl) (rfl) (ones_cons rfl (ones_cons (Own.one hO_t26) (ones_cons (Own.one hO_t28) ones_nil)))) ?_
   clear hH; rintro _ w hH
   refine a_end (by kernel_rfl) ?_ _
   replace hH := hH.pick [2, 1, 0, 3] (Hs' := [_, _, _, _]) rfl
   exact hJ8 _ _ ⟨v_t26, v_t28, N_t26, N_t28, b_t10, hA.sub ⟨rfl, rfl, rfl, rfl, rfl, rfl, trivial⟩, hH, by exact hO_t26, by exact hO_t28⟩
  ·skip
   refine o1n hA 4 91 rfl (lo_make (n := h) hH Tryd.underlying25 ti24 rfl rfl rfl (by omega) (by omega) (by omega)) ?_
   clear hH; rintro v_t28 w ⟨N_t28, hO_t28, hH⟩
   replace hO_t28 := OwD.make hO_t28 rfl
   intro a hA
   refine a1n hA 2 95 rfl (lo_make (n := 2 * n) hH Tryd.underlying25 ti24 rfl rfl rfl (by omega) (by omega) (by omega)) ?_
   clear hH; rintro v_t26 w ⟨N_t26, hO_t26, hH⟩
   replace hO_t26 := OwD.make hO_t26 rfl
   intro a hA
   refine p0 hA 5 127 rfl (fun w => (q_buildC (css := [[v_t26], [v_t28]]) (z := [(I 0), (.slice none 0 0), (.slice none 0 0)]) (BT.mk (pl := [(0, 1), (1, 1), (2, 1)]) (it := Tryd.t27) (by kernel_rfl) Tryd.underlying27 (by kernel_rfl) (by kernel_rfl)) rfl ⟨cells_one (Own.one hO_t26), ⟨_, rfl, by first | rfl | (simp [Value.cells]; done) | (simp [Value.cells, *]; done), by decide⟩, cells_one (Own.one hO_t28), ⟨_, rfl, by first | rfl | (simp [Value.cells]; done) | (simp [Value.cells, *]; done), by decide⟩, trivial⟩)) fun a hA => ?_
   replace hH := hH.pick [2, 0, 1, 3] (Hs' := [_, _, _, _]) rfl
   refine a0n hA 7 255 rfl (lo_storeAm hH ti27 rfl rfl (rfl) (rfl) (ones_cons rfl (ones_cons (Own.one hO_t26) (ones_cons (Own.one hO_t28) ones_nil)))) ?_
   clear hH; rintro _ w hH
   refine a_end (by kernel_rfl) ?_ _
   replace hH := hH.pick [1, 2, 0, 3] (Hs' := [_, _, _, _]) rfl
   exact hJ8 _ _ ⟨v_t26, v_t28, N_t26, N_t28, b_t10, hA.sub ⟨rfl, rfl, rfl, rfl, rfl, rfl, trivial⟩, hH, by exact hO_t26, by exact hO_t28⟩

end Go.Proofs.YtnnkgdijaekcfaaDoor
