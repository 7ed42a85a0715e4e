/- Layer 22 (worker): the document's key, at the beginning of something greater; configs that may not be. -/
import Derived.Test.YtnnkgdijaekcfaaGreatDoorKc
import Derived.Test.YtnnkgdijaekcfaaGreatDoorHc
import Derived.Test.YtnnkgdijaekcfaaGreatDoorMzc
namespace Go.Proofs.YtnnkgdijaekcfaaGreatDoor
open Go
set_option linter.unusedVariables false
set_option linter.unusedSimpArgs false
set_option maxRecDepth 100000

def wrI (n : Int) : Int := IntKind.wrap .i64 n
theorem q_addW {P : Program} {E : Env} {t ty t' : TypeId} {w : World} {x y : Operand} {m n : Int} (hx : E.ev x = some (I m)) (hy : E.ev y = some (I n)) : Runs P E (.binOp .add t x y t') ty w (I (wrI (m + n))) := q_bin hx hy (by simp [binOp, Op.intArith, wrI])
theorem q_mulW {P : Program} {E : Env} {t ty t' : TypeId} {w : World} {x y : Operand} {m n : Int} (hx : E.ev x = some (I m)) (hy : E.ev y = some (I n)) : Runs P E (.binOp .mul t x y t') ty w (I (wrI (m * n))) := q_bin hx hy (by simp [binOp, Op.intArith, wrI])
theorem refleavesX {w0 : World} {lv : Nat} (hg : Gl (lv + 2) w0) (b_m : Nat) (hgM : NG (lv + 2) [b_m]) (s : Bs) (hsd : s.length = 32) (n h : Nat) (hn : R7 n h) (rest : List Value) (T x : Nat)  (hH : HS [b_m] w0 w0 [[(b_m, Obj.cells (rkX s n h x rest).toArray T (0, 0))]]) :
    Calls Tryz.prog 24 #[(.pointer (some ⟨b_m, 0, none⟩))] w0 (Ret fun r w' => ∃ v' N, v' = r ∧ OwD 25 v' (leavesK s n (2 ^ h)) N ∧ HS [b_m] w0 w' [[(b_m, Obj.cells (rkX s n h x rest).toArray T (0, 0))], N]) := by
 refine start (n := 36) (E := [(0, _)]) Tryz.func24 rfl rfl rfl (args_look rfl) ?_
 intro a hA
 have hn5 := hn.1
 have hn1 := hn.1.1
 have hn2 := hn.1.2
 have hh6 : h ≤ 6 := by have := hn.2.2; omega
 have h64 := pow_le64 hh6
 have hp0 : 0 < 2 ^ h := Nat.pow_pos (by decide)
 have hPl := pubK_length s n h
 refine wp_seq_k fun K1 hK1 => ?_
 refine wp_region_lit ?_
 refine asg hA fun a hA => ?_
 refine wpList_nil ?_
 refine hK1 _ _ ?_
 clear hK1
 refine wp_seq_k fun K2 hK2 => ?_
 refine wp_region_lit ?_
 refine asg hA fun a hA => ?_
 refine wpList_nil ?_
 refine hK2 _ _ ?_
 clear hK2
 refine wp_seq_k fun K3 hK3 => ?_
 refine wp_seq_k fun K4 hK4 => ?_
 refine wp_region_lit ?_
 refine asg hA fun a hA => ?_
 refine wpList_nil ?_
 refine hK4 _ _ ?_
 clear hK4
 refine wp_block ?_
 replace hH := hH.nilFront
 refine wp_loop_ghost (fun gm a w => ∃ i : Nat, ∃ v_o : Value, ∃ N_o : Hl, At 36 [(4, I i), (3, v_o), (2, (.slice none 0 0)), (0, (.pointer (some ⟨b_m, 0, none⟩)))] a ∧ HS [b_m] w0 w ([N_o, [(b_m, Obj.cells (rkX s n h x rest).toArray T (0, 0))]]) ∧ (i ≤ 2 ^ h) ∧ (OwD 25 v_o (leavesK s n i) N_o) ∧ gm = 2 ^ h - i) (2 ^ h - (0)) ⟨0, nilV, [], hA.sub ⟨rfl, rfl, rfl, rfl, trivial⟩, hH, by omega, by exact OwD.nil _, rfl⟩ ?_
 clear hA hH
 rintro gm a w ⟨i, v_o, N_o, hA, hH, hi, hO_o, rfl⟩
 refine wp_seq_k fun K5 hK5 => ?_
 refine wp_seq_k fun K6 hK6 => ?_
 refine wp_region_lit ?_
 refine mv hA fun a hA => ?_
 refine mv hA fun a hA => ?_
 refine sq hA (q_nilCheck rfl) rfl fun a hA => ?_
 refine sq hA (q_fld 33 Tryz.underlying36 rfl rfl ti3 rfl) rfl fun a hA => ?_
 refine sq hA (q_loadB hH 1 rfl (List.mem_singleton.2 rfl) Tryz.underlying3 rfl rfl (rkX_33 hsd)) rfl fun a hA => ?_
 refine sq hA (q_shlI (m := 1) (n := h) ((2 ^ h : Nat) : Int) rfl rfl (by omega) (by push_cast; rfl) (by omega)) rfl fun a hA => ?_
 rw [Int.one_mul] at hA
 refine sq hA (q_lssI rfl rfl) rfl fun a hA => ?_
 refine wpList_nil ?_
 refine hK6 _ _ ?_
 clear hK6
 refine cond_d hA rfl (fun hc13 => ?_) (fun hc13 => ?_)
 ·skip
  refine wp_skip ?_
  refine hK5 _ _ ?_
  clear hK5
  refine wp_seq_k fun K7 hK7 => ?_
  refine wp_block ?_
  refine wp_seq_k fun K8 hK8 => ?_
  refine any_go mixed (fun _ => true) hH ?_
  clear hH; intro w hH
  have hS := hH
  refine any_l 16 ?_
  refine p0 hA 0 1 rfl (fun w => (q_move rfl)) fun a hA => ?_
  refine p0 hA 1 3 rfl (fun w => (q_nilCheck rfl)) fun a hA => ?_
  refine p0 hA 2 7 rfl (fun w => (q_fld 0 Tryz.underlying36 rfl rfl ti25 rfl)) fun a hA => ?_
  refine r0 hA 3 15 rfl hS (fun w hH => (q_loadBA hH 1 rfl (List.mem_singleton.2 rfl) Tryz.underlying25 rfl ti25 rfl _ (rkX_seed hsd) (by simp [hsd]))) fun a hA => ?_
  refine p0 hA 4 31 rfl (fun w => (q_move rfl)) fun a hA => ?_
  refine p0 hA 6 95 rfl (fun w => (q_move rfl)) fun a hA => ?_
  refine p0 hA 7 223 rfl (fun w => (q_nilCheck rfl)) fun a hA => ?_
  refine p0 hA 8 479 rfl (fun w => (q_fld 32 Tryz.underlying36 rfl rfl ti3 rfl)) fun a hA => ?_
  refine r0 hA 9 991 rfl hS (fun w hH => (q_loadB hH 1 rfl (List.mem_singleton.2 rfl) Tryz.underlying3 rfl rfl (rkX_32 hsd))) fun a hA => ?_
  refine a1 hA 5 1023 rfl (lo_call fn56 rfl (refseed_any (hg.mono hH hgM) _ _ _ (by first | assumption | (rw [List.length_map]; assumption) | rfl | exact sha_length _ | (simp; done) | (simp [*]; done) | omega) (by decide))) ?_
  rintro _ w ⟨rfl, hC⟩
  replace hH := HS.call0 hH hC
  clear hC
  replace hS := hH.pick [0, 1] (Hs' := [_, _]) rfl
  refine ⟨fun _ _ => hS, ?_⟩
  intro a hA
  refine a1 hA 10 2047 rfl (lo_call fn55 rfl (refpublic_any (hg.mono hH hgM) _ (by first | assumption | (rw [List.length_map]; assumption) | rfl | exact sha_length _ | (simp; done) | (simp [*]; done) | omega) _ hn5)) ?_
  rintro _ w ⟨v_t27, N_t27, rfl, hO_t27, hC⟩
  replace hH := HS.call0 hH hC
  clear hC
  replace hS := hH.pick [1, 2] (Hs' := [_, _]) rfl
  refine ⟨fun _ _ => hS, ?_⟩
  intro a hA
  refine p0 hA 11 4095 rfl (fun w => (q_move rfl)) fun a hA => ?_
  refine p0 hA 12 8191 rfl (fun w => (q_extract rfl rfl)) fun a hA => ?_
  refine p0 hA 13 16383 rfl (fun w => (q_extract rfl rfl)) fun a hA => ?_
  refine p0 hA 14 32767 rfl (fun w => (q_assign rfl)) fun a hA => ?_
  refine p0 hA 15 65535 rfl (fun w => (q_assign rfl)) fun a hA => ?_
  refine a_end (by kernel_rfl) ?_ _
  refine hK8 _ _ ?_
  clear hK8
  replace hA := hA.sub (E' := [(5, _), (29, _), (28, _), (16, _), (27, _), (22, _), (26, _), (25, _), (24, _), (23, _), (21, _), (20, _), (19, _), (18, _), (17, _), (13, _), (12, _), (11, _), (10, _), (9, _), (8, _), (7, _), (4, _), (3, _), (2, _), (0, _)]) ⟨rfl, rfl, rfl, rfl, rfl, rfl, rfl, rfl, rfl, rfl, rfl, rfl, rfl, rfl, rfl, rfl, rfl, rfl, rfl, rfl, rfl, rfl, rfl, rfl, rfl, rfl, trivial⟩
  refine wp_region_lit ?_
  refine mv hA fun a hA => ?_
  refine mv hA fun a hA => ?_
  refine sl hA (lo_call fn57 rfl (reforoot_any (hg.mono hH hgM) _ _ (by first | assumption | exact pubV_dg _ _) (Own.rd0 hO_t27 hH 0 rfl) (by first | omega | (simp; omega) | (rw [pubV_length]; omega)))) rfl ?_
  rintro _ w ⟨rfl, hC⟩ a hA
  replace hH := HS.call0 hH hC
  clear hC
  refine sl hA (lo_buildD (ls := [_]) hH Tryz.underlying69 ti25 rfl rfl rfl (by decide) (by decide) (by first | assumption | exact Dg.one (by first | assumption | (rw [List.length_map]; assumption) | rfl | exact sha_length _ | (simp; done) | (simp [*]; done) | omega) | exact Dg.two (by first | assumption | (rw [List.length_map]; assumption) | rfl | exact sha_length _ | (simp; done) | (simp [*]; done) | omega) (by first | assumption | (rw [List.length_map]; assumption) | rfl | exact sha_length _ | (simp; done) | (simp [*]; done) | omega))) rfl ?_
  clear hH; rintro v_t33 w ⟨N_t33, hO_t33, hH⟩ a hA
  replace hH := hH.pick [2, 0, 1, 3] (Hs' := [_, _, _, _]) rfl
  refine sl hA (lo_appD hH Tryz.underlying69 Tryz.underlying69 (.inl rfl) ti25 rfl rfl rfl hO_o (Own.rd0 hO_t33 hH 1 rfl) (by first | omega | (simp; omega)) (by first | omega | (simp; omega))) rfl ?_
  clear hH; rintro v_t34 w ⟨N_t34, hO_t34, hH⟩ a hA
  refine asg hA fun a hA => ?_
  refine wpList_nil ?_
  refine block_normal ?_
  refine hK7 _ _ ?_
  clear hK7
  refine wp_region_lit ?_
  refine mv hA fun a hA => ?_
  refine sq hA (q_addI (n := 1) rfl rfl (by omega)) rfl fun a hA => ?_
  refine asg hA fun a hA => ?_
  refine wpList_nil ?_
  replace hH := hH.pick [0, 3, 1, 2] (Hs' := [_, _, _, _]) rfl
  replace hH := hH.pick [0, 1] (Hs' := [_, _]) rfl
  exact ⟨_, by omega, i + 1, v_t34, N_t34, hA.sub ⟨rfl, rfl, rfl, rfl, trivial⟩, hH, by omega, by (rw [leavesK_succ]; exact hO_t34), rfl⟩
 ·skip
  obtain rfl : i = 2 ^ h := by omega
  refine wp_exit ?_
  refine then_exit ?_
  refine then_exit ?_
  refine exit_here ?_
  refine hK3 _ _ ?_
  clear hK3
  replace hA := hA.s2 3 2
  refine wp_seq_k fun K9 hK9 => ?_
  refine wp_region_lit ?_
  refine mv hA fun a hA => ?_
  refine asg hA fun a hA => ?_
  refine wpList_nil ?_
  refine hK9 _ _ ?_
  clear hK9
  replace hA := hA.s1 2
  refine wp_ret ?_
  refine post_ret hA (res_1 rfl hA rfl) ?_
  replace hH := hH.pick [1, 0] (Hs' := [_, _]) rfl
  exact ⟨_, rfl, v_o, N_o, rfl, hO_o, hH⟩

theorem refpubX {w0 : World} {lv : Nat} (hg : Gl (lv + 2) w0) (b_m : Nat) (hgM : NG (lv + 2) [b_m]) (s : Bs) (hsd : s.length = 32) (n h : Nat) (hn : R7 n h) (rest : List Value) (T x : Nat)  (hH : HS [b_m] w0 w0 [[(b_m, Obj.cells (rkX s n h x rest).toArray T (0, 0))]]) :
    Calls Tryz.prog 10 #[(.pointer (some ⟨b_m, 0, none⟩))] w0 (Ret fun r w' => r = (.agg ((pubK s n h).map B8).toArray) ∧ HS [b_m] w0 w' [[(b_m, Obj.cells (rkX s n h x rest).toArray T (0, 0))]]) := by
 refine start (n := 12) (E := [(0, _)]) Tryz.func10 rfl rfl rfl (args_look rfl) ?_
 intro a hA
 have hn5 := hn.1
 have hn1 := hn.1.1
 have hn2 := hn.1.2
 have hh6 : h ≤ 6 := by have := hn.2.2; omega
 have h64 := pow_le64 hh6
 have hp0 : 0 < 2 ^ h := Nat.pow_pos (by decide)
 have hPl := pubK_length s n h
 refine wp_seq_k fun K1 hK1 => ?_
 refine wp_region_lit ?_
 refine sl hA (lo_allocA hH ti25) rfl ?_
 clear hH; rintro _ w ⟨b_t2, rfl, hH⟩ a hA
 refine wpList_nil ?_
 refine hK1 _ _ ?_
 clear hK1
 refine wp_seq_k fun K2 hK2 => ?_
 refine wp_region_lit ?_
 refine mv hA fun a hA => ?_
 replace hH := hH.pick [1, 0] (Hs' := [_, _]) rfl
 refine sl hA (lo_call fn24 rfl (refleavesX (hg.mono hH hgM) b_m (hg.ng hgM hH) s hsd n h hn rest T _ (HS.handed (Ns1 := [_]) hH))) rfl ?_
 rintro _ w ⟨v_t7, N_t7, rfl, hO_t7, hC⟩ a hA
 replace hH := HS.call (Ns1 := [_]) hH hC
 clear hC
 refine sl hA (lo_call fn23 rfl (refroot_any (hg.mono hH hgM) _ _ (leavesK_dg s n _) (Own.rd0 hO_t7 hH 1 rfl) h (show h ≤ 10 by omega) (leavesK_length s n _))) rfl ?_
 rintro _ w ⟨rfl, hC⟩ a hA
 replace hH := HS.call0 hH hC
 clear hC
 refine mv hA fun a hA => ?_
 refine sq hA (q_extract rfl rfl) rfl fun a hA => ?_
 refine sq hA (q_extract rfl rfl) rfl fun a hA => ?_
 refine sl hA (lo_allocA hH ti25) rfl ?_
 clear hH; rintro _ w ⟨b_t3, rfl, hH⟩ a hA
 refine s0 hA (lo_storeAm hH ti25 rfl rfl (by first | rfl | (simp; done) | (rw [List.length_map]; exact hPl)) (by first | rfl | (simp; done) | (rw [List.length_map]; exact hPl)) (one_B8 _)) ?_
 clear hH; rintro _ w hH
 refine asg hA fun a hA => ?_
 refine wpList_nil ?_
 refine hK2 _ _ ?_
 clear hK2
 replace hA := hA.s2 3 2
 refine wp_seq_k fun K3 hK3 => ?_
 refine wp_region_lit ?_
 refine sq hA (q_loadW hH 0 rfl Tryz.underlying25 rfl ti25 rfl (by first | omega | (simp; done) | (simp; omega) | (rw [List.length_map]; assumption) | assumption | rfl | (simp [*]; done) | (simp [*]; omega))) rfl fun a hA => ?_
 replace hH := hH.pick [3, 0, 1, 2] (Hs' := [_, _, _, _]) rfl
 refine s0 hA (lo_storeAm hH ti25 rfl rfl (by first | rfl | (simp; done) | (rw [List.length_map]; exact hPl)) (by first | rfl | (simp; done) | (rw [List.length_map]; exact hPl)) (one_B8 _)) ?_
 clear hH; rintro _ w hH
 refine wpList_nil ?_
 refine hK3 _ _ ?_
 clear hK3
 replace hA := hA.s1 2
 refine wp_ret ?_
 refine post_ret hA (res_c rfl hA rfl (resW hH 0 rfl Tryz.underlying25 rfl ti25 (by first | rfl | (simp; done) | (rw [List.length_map]; exact hPl)))) ?_
 replace hH := hH.pick [2, 0, 1, 3] (Hs' := [_, _, _, _]) rfl
 replace hH := hH.pick [0] (Hs' := [_]) rfl
 exact ⟨_, rfl, rfl, hH⟩

theorem refskipX {w0 : World} {lv : Nat} (hg : Gl (lv + 2) w0) (b_m : Nat) (hgM : NG (lv + 2) [b_m]) (s : Bs) (hsd : s.length = 32) (n h : Nat) (hn : R7 n h) (rest : List Value) (T x : Nat) (hx : x ≤ 2 ^ h) (to : Int) (hH : HS [b_m] w0 w0 [[(b_m, Obj.cells (rkX s n h x rest).toArray T (0, 0))]]) :
    Calls Tryz.prog 35 #[(.pointer (some ⟨b_m, 0, none⟩)), I to] w0 (Ret fun r w' => r = I (skT (2 ^ h) x to).1 ∧ HS [b_m] w0 w' [[(b_m, Obj.cells (rkX s n h (skT (2 ^ h) x to).2 rest).toArray T (0, 0))]]) := by
 refine start (n := 24) (E := [(0, _), (1, _)]) Tryz.func35 rfl rfl rfl (args_look rfl) ?_
 intro a hA
 have hn5 := hn.1
 have hn1 := hn.1.1
 have hn2 := hn.1.2
 have hh6 : h ≤ 6 := by have := hn.2.2; omega
 have h64 := pow_le64 hh6
 have hp0 : 0 < 2 ^ h := Nat.pow_pos (by decide)
 have hPl := pubK_length s n h
 refine wp_seq_k fun K1 hK1 => ?_
 refine wp_region_lit ?_
 refine asg hA fun a hA => ?_
 refine wpList_nil ?_
 refine hK1 _ _ ?_
 clear hK1
 refine wp_seq_k fun K2 hK2 => ?_
 refine wp_seq_k fun K3 hK3 => ?_
 refine wp_region_lit ?_
 refine mv hA fun a hA => ?_
 refine mv hA fun a hA => ?_
 refine sq hA (q_nilCheck rfl) rfl fun a hA => ?_
 refine sq hA (q_fld 34 Tryz.underlying36 rfl rfl ti3 rfl) rfl fun a hA => ?_
 refine sq hA (q_loadB hH 0 rfl (List.mem_singleton.2 rfl) Tryz.underlying3 rfl rfl (rkX_34 hsd)) rfl fun a hA => ?_
 refine sq hA (q_lssI rfl rfl) rfl fun a hA => ?_
 refine hA.spl (fun hs10 hA => ?_) (fun hs10 hA => ?_)
 ·skip
  refine mv hA fun a hA => ?_
  refine gs hA rfl rfl rfl rfl fun a hA => ?_
  refine gs hA rfl rfl rfl rfl fun a hA => ?_
  refine gs hA rfl rfl rfl rfl fun a hA => ?_
  refine gs hA rfl rfl rfl rfl fun a hA => ?_
  refine gs hA rfl rfl rfl rfl fun a hA => ?_
  refine gs hA rfl rfl rfl rfl fun a hA => ?_
  refine gs hA rfl rfl rfl rfl fun a hA => ?_
  refine sq hA (q_pick_t rfl rfl) rfl fun a hA => ?_
  refine wpList_nil ?_
  refine hK3 _ _ ?_
  clear hK3
  replace hA := hA.s4 19 4 0 1
  refine cond_t hA rfl ?_
  refine wp_seq_k fun K4 hK4 => ?_
  refine wp_region_lit ?_
  refine asg hA fun a hA => ?_
  refine wpList_nil ?_
  refine hK4 _ _ ?_
  clear hK4
  replace hA := hA.s3 4 0 1
  refine wp_ret ?_
  refine then_ret ?_
  refine post_ret hA (res_1 rfl hA rfl) ?_
  first | exact ⟨_, rfl, by rw [skT_no (by omega)]; rfl, by rw [skT_no (by omega)]; exact hH⟩ | exact ⟨_, rfl, by rw [skT_ok (by omega) (by omega)]; rfl, by rw [skT_ok (by omega) (by omega)]; rw [show to = ((to.toNat : Nat) : Int) by omega] at hH; exact hH⟩
 ·skip
  refine mv hA fun a hA => ?_
  refine gq hA rfl rfl (q_move rfl) rfl fun a hA => ?_
  refine gq hA rfl rfl (q_move rfl) rfl fun a hA => ?_
  refine gq hA rfl rfl (q_nilCheck rfl) rfl fun a hA => ?_
  refine gq hA rfl rfl (q_fld 33 Tryz.underlying36 rfl rfl ti3 rfl) rfl fun a hA => ?_
  refine gq hA rfl rfl (q_loadB hH 0 rfl (List.mem_singleton.2 rfl) Tryz.underlying3 rfl rfl (rkX_33 hsd)) rfl fun a hA => ?_
  refine gq hA rfl rfl (q_shlI (m := 1) (n := h) ((2 ^ h : Nat) : Int) rfl rfl (by omega) (by push_cast; rfl) (by omega)) rfl fun a hA => ?_
  rw [Int.one_mul] at hA
  refine gq hA rfl rfl (q_gtrI rfl rfl) rfl fun a hA => ?_
  refine sq hA (q_pick_f rfl rfl) rfl fun a hA => ?_
  refine wpList_nil ?_
  refine hK3 _ _ ?_
  clear hK3
  replace hA := hA.s4 19 4 0 1
  refine cond_d hA rfl (fun hc19 => ?_) (fun hc19 => ?_)
  ·skip
   refine wp_seq_k fun K5 hK5 => ?_
   refine wp_region_lit ?_
   refine asg hA fun a hA => ?_
   refine wpList_nil ?_
   refine hK5 _ _ ?_
   clear hK5
   replace hA := hA.s3 4 0 1
   refine wp_ret ?_
   refine then_ret ?_
   refine post_ret hA (res_1 rfl hA rfl) ?_
   first | exact ⟨_, rfl, by rw [skT_no (by omega)]; rfl, by rw [skT_no (by omega)]; exact hH⟩ | exact ⟨_, rfl, by rw [skT_ok (by omega) (by omega)]; rfl, by rw [skT_ok (by omega) (by omega)]; rw [show to = ((to.toNat : Nat) : Int) by omega] at hH; exact hH⟩
  ·skip
   refine wp_skip ?_
   refine hK2 _ _ ?_
   clear hK2
   replace hA := hA.s3 4 0 1
   refine wp_seq_k fun K6 hK6 => ?_
   refine wp_region_lit ?_
   refine mv hA fun a hA => ?_
   refine mv hA fun a hA => ?_
   refine sq hA (q_nilCheck rfl) rfl fun a hA => ?_
   refine sq hA (q_fld 34 Tryz.underlying36 rfl rfl ti3 rfl) rfl fun a hA => ?_
   refine s0 hA (lo_store1 hH ti3 rfl rfl ((rkX_lt hsd)) rfl) ?_
   clear hH; rintro _ w hH
   rw [rkX_set hsd] at hH
   refine wpList_nil ?_
   refine hK6 _ _ ?_
   clear hK6
   replace hA := hA.s1 4
   refine wp_seq_k fun K7 hK7 => ?_
   refine wp_region_lit ?_
   refine asg hA fun a hA => ?_
   refine wpList_nil ?_
   refine hK7 _ _ ?_
   clear hK7
   refine wp_ret ?_
   refine post_ret hA (res_1 rfl hA rfl) ?_
   first | exact ⟨_, rfl, by rw [skT_no (by omega)]; rfl, by rw [skT_no (by omega)]; exact hH⟩ | exact ⟨_, rfl, by rw [skT_ok (by omega) (by omega)]; rfl, by rw [skT_ok (by omega) (by omega)]; rw [show to = ((to.toNat : Nat) : Int) by omega] at hH; exact hH⟩

theorem refsignX {w0 : World} {lv : Nat} (hg : Gl (lv + 2) w0) (b_m : Nat) (hgM : NG (lv + 2) [b_m]) (s : Bs) (hsd : s.length = 32) (n h : Nat) (hn : R7 n h) (rest : List Value) (T x : Nat) (hx : x < 2 ^ h) (u : Value) (l : Bs) (hu : By [b_m] w0 u l) (hl : l.length ≤ 1048576) (hH : HS [b_m] w0 w0 [[(b_m, Obj.cells (rkX s n h x rest).toArray T (0, 0))]]) :
    Calls Tryz.prog 37 #[(.pointer (some ⟨b_m, 0, none⟩)), u] w0 (Ret fun r w' => ∃ o p N1 N2, r = .tuple #[.agg #[I x, o, p], I 0] ∧ OwD 25 o (otsK s n x l) N1 ∧ OwD 25 p (pthK s n h x) N2 ∧ HS [b_m] w0 w' [[(b_m, Obj.cells (rkX s n h (x + 1 : Nat) rest).toArray T (0, 0))], N1, N2]) := by
 refine start (n := 67) (E := [(0, _), (1, _)]) Tryz.func37 rfl rfl rfl (args_look rfl) ?_
 intro a hA
 have hn5 := hn.1
 have hn1 := hn.1.1
 have hn2 := hn.1.2
 have hh6 : h ≤ 6 := by have := hn.2.2; omega
 have h64 := pow_le64 hh6
 have hp0 : 0 < 2 ^ h := Nat.pow_pos (by decide)
 have hPl := pubK_length s n h
 refine wp_seq_k fun K1 hK1 => ?_
 refine wp_region_lit ?_
 refine sl hA (lo_allocA hH ti81) rfl ?_
 clear hH; rintro _ w ⟨b_t4, rfl, hH⟩ a hA
 refine asg hA fun a hA => ?_
 refine wpList_nil ?_
 refine hK1 _ _ ?_
 clear hK1
 refine wp_seq_k fun K2 hK2 => ?_
 refine wp_seq_k fun K3 hK3 => ?_
 refine any_go mixed (fun _ => true) hH ?_
 clear hH; intro w hH
 have hS := hH
 refine any_l 10 ?_
 refine p0 hA 0 1 rfl (fun w => (q_move rfl)) fun a hA => ?_
 refine p0 hA 1 3 rfl (fun w => (q_nilCheck rfl)) fun a hA => ?_
 refine p0 hA 2 7 rfl (fun w => (q_fld 34 Tryz.underlying36 rfl rfl ti3 rfl)) fun a hA => ?_
 refine r0 hA 3 15 rfl hS (fun w hH => (q_loadB hH 1 rfl (List.mem_singleton.2 rfl) Tryz.underlying3 rfl rfl (rkX_34 hsd))) fun a hA => ?_
 refine p0 hA 4 31 rfl (fun w => (q_move rfl)) fun a hA => ?_
 refine p0 hA 5 63 rfl (fun w => (q_nilCheck rfl)) fun a hA => ?_
 refine p0 hA 6 127 rfl (fun w => (q_fld 33 Tryz.underlying36 rfl rfl ti3 rfl)) fun a hA => ?_
 refine r0 hA 7 255 rfl hS (fun w hH => (q_loadB hH 1 rfl (List.mem_singleton.2 rfl) Tryz.underlying3 rfl rfl (rkX_33 hsd))) fun a hA => ?_
 refine p0 hA 8 511 rfl (fun w => (q_shlI (m := 1) (n := h) ((2 ^ h : Nat) : Int) rfl rfl (by omega) (by push_cast; rfl) (by omega))) fun a hA => ?_
 rw [Int.one_mul] at hA
 refine p0 hA 9 1023 rfl (fun w => (Runs.bf (q_eqlI rfl rfl) (by omega))) fun a hA => ?_
 refine a_end (by kernel_rfl) ?_ _
 refine hK3 _ _ ?_
 clear hK3
 replace hA := hA.s5 20 5 4 0 1
 refine cond_f hA rfl ?_
 refine wp_skip ?_
 refine hK2 _ _ ?_
 clear hK2
 replace hA := hA.s4 5 4 0 1
 refine wp_seq_k fun K4 hK4 => ?_
 refine wp_region_lit ?_
 refine mv hA fun a hA => ?_
 refine sq hA (q_nilCheck rfl) rfl fun a hA => ?_
 refine sq hA (q_fld 34 Tryz.underlying36 rfl rfl ti3 rfl) rfl fun a hA => ?_
 refine sq hA (q_loadB hH 1 rfl (List.mem_singleton.2 rfl) Tryz.underlying3 rfl rfl (rkX_34 hsd)) rfl fun a hA => ?_
 refine sq hA (q_buildC (css := [_]) (z := [(I 0), (.slice none 0 0), (.slice none 0 0)]) (BT.mk (pl := [(0, 1), (1, 1), (2, 1)]) (it := Tryz.t81) (by kernel_rfl) Tryz.underlying81 (by kernel_rfl) (by kernel_rfl)) rfl ⟨rfl, ⟨_, rfl, by first | rfl | (simp [Value.cells]; done) | (simp [Value.cells, *]; done), by decide⟩, trivial⟩) rfl fun a hA => ?_
 refine sl hA (lo_allocA hH ti81) rfl ?_
 clear hH; rintro _ w ⟨b_t6, rfl, hH⟩ a hA
 refine s0 hA (lo_storeAm hH ti81 rfl rfl (rfl) (rfl) (ones_cons rfl (ones_cons rfl (ones_cons rfl ones_nil)))) ?_
 clear hH; rintro _ w hH
 refine wpList_nil ?_
 refine hK4 _ _ ?_
 clear hK4
 replace hA := hA.s5 6 5 4 0 1
 refine wp_seq_k fun K5 hK5 => ?_
 refine any_go mixed (fun _ => true) hH ?_
 clear hH; intro w hH
 have hS := hH
 refine any_l 20 ?_
 refine p0 hA 0 1 rfl (fun w => (q_move rfl)) fun a hA => ?_
 refine p0 hA 1 3 rfl (fun w => (q_nilCheck rfl)) fun a hA => ?_
 refine p0 hA 2 7 rfl (fun w => (q_fld 0 Tryz.underlying36 rfl rfl ti25 rfl)) fun a hA => ?_
 refine r0 hA 3 15 rfl hS (fun w hH => (q_loadBA hH 2 rfl (List.mem_singleton.2 rfl) Tryz.underlying25 rfl ti25 rfl _ (rkX_seed hsd) (by simp [hsd]))) fun a hA => ?_
 refine p0 hA 4 31 rfl (fun w => (q_move rfl)) fun a hA => ?_
 refine p0 hA 5 63 rfl (fun w => (q_nilCheck rfl)) fun a hA => ?_
 refine p0 hA 6 127 rfl (fun w => (q_fld 34 Tryz.underlying36 rfl rfl ti3 rfl)) fun a hA => ?_
 refine r0 hA 7 255 rfl hS (fun w hH => (q_loadB hH 2 rfl (List.mem_singleton.2 rfl) Tryz.underlying3 rfl rfl (rkX_34 hsd))) fun a hA => ?_
 refine p0 hA 9 767 rfl (fun w => (q_move rfl)) fun a hA => ?_
 refine p0 hA 10 1791 rfl (fun w => (q_nilCheck rfl)) fun a hA => ?_
 refine p0 hA 11 3839 rfl (fun w => (q_fld 32 Tryz.underlying36 rfl rfl ti3 rfl)) fun a hA => ?_
 refine r0 hA 12 7935 rfl hS (fun w hH => (q_loadB hH 2 rfl (List.mem_singleton.2 rfl) Tryz.underlying3 rfl rfl (rkX_32 hsd))) fun a hA => ?_
 refine p0 hA 13 16127 rfl (fun w => (q_move rfl)) fun a hA => ?_
 refine a1 hA 8 16383 rfl (lo_call fn56 rfl (refseed_any (hg.mono hH hgM) _ _ _ (by first | assumption | (rw [List.length_map]; assumption) | rfl | exact sha_length _ | (simp; done) | (simp [*]; done) | omega) (by decide))) ?_
 rintro _ w ⟨rfl, hC⟩
 replace hH := HS.call0 hH hC
 clear hC
 replace hS := hH.pick [0, 1, 2] (Hs' := [_, _, _]) rfl
 refine ⟨fun _ _ => hS, ?_⟩
 intro a hA
 refine a1 hA 14 32767 rfl (lo_call fn78 rfl (refsign_any (hg.mono hH hgM) _ (by first | assumption | (rw [List.length_map]; assumption) | rfl | exact sha_length _ | (simp; done) | (simp [*]; done) | omega) _ hn5 _ _ (hH.rd hu) (by first | omega | (simp; done) | (simp; omega)))) ?_
 rintro _ w ⟨v_t42, N_t42, rfl, hO_t42, hC⟩
 replace hH := HS.call0 hH hC
 clear hC
 replace hS := hH.pick [1, 2, 3] (Hs' := [_, _, _]) rfl
 refine ⟨fun _ _ => hS, ?_⟩
 intro a hA
 refine p0 hA 15 65535 rfl (fun w => (q_move rfl)) fun a hA => ?_
 refine p0 hA 16 131071 rfl (fun w => (q_extract rfl rfl)) fun a hA => ?_
 refine p0 hA 17 262143 rfl (fun w => (q_extract rfl rfl)) fun a hA => ?_
 refine p0 hA 18 524287 rfl (fun w => (q_assign rfl)) fun a hA => ?_
 refine p0 hA 19 1048575 rfl (fun w => (q_assign rfl)) fun a hA => ?_
 refine a_end (by kernel_rfl) ?_ _
 refine hK5 _ _ ?_
 clear hK5
 replace hA := hA.s5 7 6 5 4 0
 refine wp_seq_k fun K6 hK6 => ?_
 refine wp_region_lit ?_
 refine mv hA fun a hA => ?_
 refine sq hA (q_fld 1 Tryz.underlying81 rfl rfl ti69 rfl) rfl fun a hA => ?_
 replace hH := hH.pick [1, 0, 2, 3] (Hs' := [_, _, _, _]) rfl
 refine s0 hA (lo_store1 hH ti69 rfl rfl ((show 1 < 3 by decide)) (Own.one hO_t42)) ?_
 clear hH; rintro _ w hH
 refine wpList_nil ?_
 refine hK6 _ _ ?_
 clear hK6
 replace hA := hA.s4 6 5 4 0
 refine wp_seq_k fun K7 hK7 => ?_
 refine any_goI mixed [0, 1, 2] (Hs' := [_, _, _]) rfl (fun j => !(Nat.beq j 6)) hH ?_
 clear hH; intro w hH hS
 refine any_l 12 ?_
 refine p0 hA 0 1 rfl (fun w => (q_move rfl)) fun a hA => ?_
 refine p0 hA 2 5 rfl (fun w => (q_move rfl)) fun a hA => ?_
 refine p0 hA 3 13 rfl (fun w => (q_nilCheck rfl)) fun a hA => ?_
 refine p0 hA 4 29 rfl (fun w => (q_fld 34 Tryz.underlying36 rfl rfl ti3 rfl)) fun a hA => ?_
 refine a_ch2 (i := 1) (j := 5) (by kernel_rfl) ?_ ?_
 ·skip
  replace hH := hH.pick [3, 0, 1, 2] (Hs' := [_, _, _, _]) rfl
  refine o1 hA 1 31 rfl (lo_call fn24 rfl (refleavesX (hg.mono hH hgM) b_m (hg.ng hgM hH) s hsd n h hn rest T _ (HS.handed (Ns1 := [_]) hH))) ?_
  rintro _ w ⟨v_t49, N_t49, rfl, hO_t49, hC⟩
  replace hH := HS.call (Ns1 := [_]) hH hC
  clear hC
  replace hS := hH.pick [2, 3, 4] (Hs' := [_, _, _]) rfl
  refine ⟨fun _ _ => hS, ?_⟩
  intro a hA
  refine a1 hA 5 63 rfl (Runs.lo (q_loadB hH 0 rfl (List.mem_singleton.2 rfl) Tryz.underlying3 rfl rfl (rkX_34 hsd))) ?_
  rintro _ _ ⟨rfl, rfl⟩
  replace hS := hH.pick [2, 3, 4] (Hs' := [_, _, _]) rfl
  refine ⟨fun _ _ => hS, ?_⟩
  intro a hA
  refine a1n hA 6 127 rfl (lo_call fn79 rfl (refpath_any (hg.mono hH hgM) _ _ (leavesK_dg s n _) (Own.rd0 hO_t49 hH 1 rfl) _ _ (show h ≤ 10 by omega) (leavesK_length s n _) (by omega))) ?_
  rintro _ w ⟨v_t54, N_t54, rfl, hO_t54, hC⟩
  replace hH := HS.call0 hH hC
  clear hC
  intro a hA
  refine p0 hA 7 255 rfl (fun w => (q_move rfl)) fun a hA => ?_
  refine p0 hA 8 511 rfl (fun w => (q_extract rfl rfl)) fun a hA => ?_
  refine p0 hA 9 1023 rfl (fun w => (q_extract rfl rfl)) fun a hA => ?_
  refine p0 hA 10 2047 rfl (fun w => (q_assign rfl)) fun a hA => ?_
  refine p0 hA 11 4095 rfl (fun w => (q_assign rfl)) fun a hA => ?_
  refine a_end (by kernel_rfl) ?_ _
  refine hK7 _ _ ?_
  clear hK7
  replace hA := hA.s5 9 6 5 4 0
  refine wp_seq_k fun K8 hK8 => ?_
  refine wp_region_lit ?_
  refine mv hA fun a hA => ?_
  refine sq hA (q_fld 2 Tryz.underlying81 rfl rfl ti69 rfl) rfl fun a hA => ?_
  replace hH := hH.pick [3, 0, 1, 2, 4, 5] (Hs' := [_, _, _, _, _, _]) rfl
  refine s0 hA (lo_store1 hH ti69 rfl rfl ((show 2 < 3 by decide)) (Own.one hO_t54)) ?_
  clear hH; rintro _ w hH
  refine wpList_nil ?_
  refine hK8 _ _ ?_
  clear hK8
  replace hA := hA.s4 6 5 4 0
  refine wp_seq_k fun K9 hK9 => ?_
  refine wp_region_lit ?_
  refine mv hA fun a hA => ?_
  refine sq hA (q_nilCheck rfl) rfl fun a hA => ?_
  refine sq hA (q_fld 34 Tryz.underlying36 rfl rfl ti3 rfl) rfl fun a hA => ?_
  refine sq hA (q_loadB hH 2 rfl (List.mem_singleton.2 rfl) Tryz.underlying3 rfl rfl (rkX_34 hsd)) rfl fun a hA => ?_
  refine sq hA (q_addI (n := 1) rfl rfl (by omega)) rfl fun a hA => ?_
  rw [show ((x : Nat) : Int) + 1 = ((x + 1 : Nat) : Int) by omega] at hA
  refine sq hA (q_nilCheck rfl) rfl fun a hA => ?_
  refine sq hA (q_fld 34 Tryz.underlying36 rfl rfl ti3 rfl) rfl fun a hA => ?_
  replace hH := hH.pick [2, 0, 1, 3, 4, 5] (Hs' := [_, _, _, _, _, _]) rfl
  refine s0 hA (lo_store1 hH ti3 rfl rfl ((rkX_lt hsd)) rfl) ?_
  clear hH; rintro _ w hH
  rw [rkX_set hsd] at hH
  refine wpList_nil ?_
  refine hK9 _ _ ?_
  clear hK9
  replace hA := hA.s3 6 5 4
  refine wp_seq_k fun K10 hK10 => ?_
  refine wp_region_lit ?_
  refine sq hA (q_loadW hH 1 rfl Tryz.underlying81 rfl ti81 rfl (by first | omega | (simp; done) | (simp; omega) | (rw [List.length_map]; assumption) | assumption | rfl | (simp [*]; done) | (simp [*]; omega))) rfl fun a hA => ?_
  replace hH := hH.pick [5, 0, 1, 2, 3, 4] (Hs' := [_, _, _, _, _, _]) rfl
  refine s0 hA (lo_storeAm hH ti81 rfl rfl (rfl) (rfl) (ones_cons rfl (ones_cons (Own.one hO_t42) (ones_cons (Own.one hO_t54) ones_nil)))) ?_
  clear hH; rintro _ w hH
  refine asg hA fun a hA => ?_
  refine wpList_nil ?_
  refine hK10 _ _ ?_
  clear hK10
  replace hA := hA.s2 5 4
  refine wp_ret ?_
  refine post_ret hA (res_c1 rfl hA rfl rfl (resW hH 0 rfl Tryz.underlying81 rfl ti81 (by first | assumption | (rw [List.length_map]; assumption) | rfl | exact sha_length _ | (simp; done) | (simp [*]; done) | omega))) ?_
  replace hH := hH.pick [1, 5, 3, 0, 2, 4] (Hs' := [_, _, _, _, _, _]) rfl
  replace hH := hH.pick [0, 1, 2] (Hs' := [_, _, _]) rfl
  exact ⟨_, rfl, v_t42, v_t54, N_t42, N_t54, rfl, hO_t42, hO_t54, hH⟩
 ·skip
  refine o1 hA 5 61 rfl (Runs.lo (q_loadB hH 3 rfl (List.mem_singleton.2 rfl) Tryz.underlying3 rfl rfl (rkX_34 hsd))) ?_
  rintro _ _ ⟨rfl, rfl⟩
  replace hS := hH.pick [0, 1, 2] (Hs' := [_, _, _]) rfl
  refine ⟨fun _ _ => hS, ?_⟩
  intro a hA
  replace hH := hH.pick [3, 0, 1, 2] (Hs' := [_, _, _, _]) rfl
  refine a1 hA 1 63 rfl (lo_call fn24 rfl (refleavesX (hg.mono hH hgM) b_m (hg.ng hgM hH) s hsd n h hn rest T _ (HS.handed (Ns1 := [_]) hH))) ?_
  rintro _ w ⟨v_t49, N_t49, rfl, hO_t49, hC⟩
  replace hH := HS.call (Ns1 := [_]) hH hC
  clear hC
  replace hS := hH.pick [2, 3, 4] (Hs' := [_, _, _]) rfl
  refine ⟨fun _ _ => hS, ?_⟩
  intro a hA
  refine a1n hA 6 127 rfl (lo_call fn79 rfl (refpath_any (hg.mono hH hgM) _ _ (leavesK_dg s n _) (Own.rd0 hO_t49 hH 1 rfl) _ _ (show h ≤ 10 by omega) (leavesK_length s n _) (by omega))) ?_
  rintro _ w ⟨v_t54, N_t54, rfl, hO_t54, hC⟩
  replace hH := HS.call0 hH hC
  clear hC
  intro a hA
  refine p0 hA 7 255 rfl (fun w => (q_move rfl)) fun a hA => ?_
  refine p0 hA 8 511 rfl (fun w => (q_extract rfl rfl)) fun a hA => ?_
  refine p0 hA 9 1023 rfl (fun w => (q_extract rfl rfl)) fun a hA => ?_
  refine p0 hA 10 2047 rfl (fun w => (q_assign rfl)) fun a hA => ?_
  refine p0 hA 11 4095 rfl (fun w => (q_assign rfl)) fun a hA => ?_
  refine a_end (by kernel_rfl) ?_ _
  refine hK7 _ _ ?_
  clear hK7
  replace hA := hA.s5 9 6 5 4 0
  refine wp_seq_k fun K11 hK11 => ?_
  refine wp_region_lit ?_
  refine mv hA fun a hA => ?_
  refine sq hA (q_fld 2 Tryz.underlying81 rfl rfl ti69 rfl) rfl fun a hA => ?_
  replace hH := hH.pick [3, 0, 1, 2, 4, 5] (Hs' := [_, _, _, _, _, _]) rfl
  refine s0 hA (lo_store1 hH ti69 rfl rfl ((show 2 < 3 by decide)) (Own.one hO_t54)) ?_
  clear hH; rintro _ w hH
  refine wpList_nil ?_
  refine hK11 _ _ ?_
  clear hK11
  replace hA := hA.s4 6 5 4 0
  refine wp_seq_k fun K12 hK12 => ?_
  refine wp_region_lit ?_
  refine mv hA fun a hA => ?_
  refine sq hA (q_nilCheck rfl) rfl fun a hA => ?_
  refine sq hA (q_fld 34 Tryz.underlying36 rfl rfl ti3 rfl) rfl fun a hA => ?_
  refine sq hA (q_loadB hH 2 rfl (List.mem_singleton.2 rfl) Tryz.underlying3 rfl rfl (rkX_34 hsd)) rfl fun a hA => ?_
  refine sq hA (q_addI (n := 1) rfl rfl (by omega)) rfl fun a hA => ?_
  rw [show ((x : Nat) : Int) + 1 = ((x + 1 : Nat) : Int) by omega] at hA
  refine sq hA (q_nilCheck rfl) rfl fun a hA => ?_
  refine sq hA (q_fld 34 Tryz.underlying36 rfl rfl ti3 rfl) rfl fun a hA => ?_
  replace hH := hH.pick [2, 0, 1, 3, 4, 5] (Hs' := [_, _, _, _, _, _]) rfl
  refine s0 hA (lo_store1 hH ti3 rfl rfl ((rkX_lt hsd)) rfl) ?_
  clear hH; rintro _ w hH
  rw [rkX_set hsd] at hH
  refine wpList_nil ?_
  refine hK12 _ _ ?_
  clear hK12
  replace hA := hA.s3 6 5 4
  refine wp_seq_k fun K13 hK13 => ?_
  refine wp_region_lit ?_
  refine sq hA (q_loadW hH 1 rfl Tryz.underlying81 rfl ti81 rfl (by first | omega | (simp; done) | (simp; omega) | (rw [List.length_map]; assumption) | assumption | rfl | (simp [*]; done) | (simp [*]; omega))) rfl fun a hA => ?_
  replace hH := hH.pick [5, 0, 1, 2, 3, 4] (Hs' := [_, _, _, _, _, _]) rfl
  refine s0 hA (lo_storeAm hH ti81 rfl rfl (rfl) (rfl) (ones_cons rfl (ones_cons (Own.one hO_t42) (ones_cons (Own.one hO_t54) ones_nil)))) ?_
  clear hH; rintro _ w hH
  refine asg hA fun a hA => ?_
  refine wpList_nil ?_
  refine hK13 _ _ ?_
  clear hK13
  replace hA := hA.s2 5 4
  refine wp_ret ?_
  refine post_ret hA (res_c1 rfl hA rfl rfl (resW hH 0 rfl Tryz.underlying81 rfl ti81 (by first | assumption | (rw [List.length_map]; assumption) | rfl | exact sha_length _ | (simp; done) | (simp [*]; done) | omega))) ?_
  replace hH := hH.pick [1, 5, 3, 0, 2, 4] (Hs' := [_, _, _, _, _, _]) rfl
  replace hH := hH.pick [0, 1, 2] (Hs' := [_, _, _]) rfl
  exact ⟨_, rfl, v_t42, v_t54, N_t42, N_t54, rfl, hO_t42, hO_t54, hH⟩

set_option maxHeartbeats 1000000 in
theorem check_badA {w0 : World} (cs : List Int) (hcs : cs.length = 7) (hC : ¬ RightC cs) (hf : 0 ≤ cs.getD 0 0 ∧ cs.getD 0 0 ≤ 2) :
    Calls Tryz.prog 19 #[(.agg ((cs).map I).toArray)] w0 (Ret fun r w' => r = I 1 ∧ HS [] w0 w' []) := by
 have hH := HS.start w0
 refine start (n := 43) (E := [(0, _)]) Tryz.func19 rfl rfl rfl (args_look rfl) ?_
 intro a hA
 refine wp_seq_k fun K1 hK1 => ?_
 refine wp_region_lit ?_
 refine sl hA (lo_boxA hH rfl) rfl ?_
 clear hH; rintro _ w ⟨b_t1, rfl, hH⟩ a hA
 refine asg hA fun a hA => ?_
 refine wpList_nil ?_
 refine hK1 _ _ ?_
 clear hK1
 replace hA := hA.s2 2 1
 refine wp_seq_k fun K2 hK2 => ?_
 refine wp_seq_k fun K3 hK3 => ?_
 refine wp_region_lit ?_
 refine sq hA (q_fld 0 Tryz.underlying23 rfl rfl ti3 rfl) rfl fun a hA => ?_
 refine sq hA (q_loadBm ((0 : Int)) hH 0 rfl Tryz.underlying3 rfl rfl (by first | omega | (simp; done) | (simp; omega) | (rw [List.length_map]; assumption) | assumption | rfl | (simp [*]; done) | (simp [*]; omega))) rfl fun a hA => ?_
 refine sq hA (q_buildV (vs := [I (cs.getD 0 0), I (0), I (2)]) (zs := [(I 0), (I 0), (I 0)]) (it := Tryz.t95) (ie := Tryz.t3) (by kernel_rfl) Tryz.underlying95 (by kernel_rfl) (by kernel_rfl) rfl rfl rfl (ones_cons rfl (ones_cons rfl (ones_cons rfl ones_nil)))) rfl fun a hA => ?_
 refine sq hA (q_fld 1 Tryz.underlying23 rfl rfl ti3 rfl) rfl fun a hA => ?_
 refine sq hA (q_loadBm ((0 : Int)) hH 0 rfl Tryz.underlying3 rfl rfl (by first | omega | (simp; done) | (simp; omega) | (rw [List.length_map]; assumption) | assumption | rfl | (simp [*]; done) | (simp [*]; omega))) rfl fun a hA => ?_
 refine sq hA (q_fld 0 Tryz.underlying23 rfl rfl ti3 rfl) rfl fun a hA => ?_
 refine sq hA (q_loadBm ((0 : Int)) hH 0 rfl Tryz.underlying3 rfl rfl (by first | omega | (simp; done) | (simp; omega) | (rw [List.length_map]; assumption) | assumption | rfl | (simp [*]; done) | (simp [*]; omega))) rfl fun a hA => ?_
 refine sq hA (q_mulI (m := 2) rfl rfl (by omega)) rfl fun a hA => ?_
 refine sq hA (q_addI (n := 1) rfl rfl (by omega)) rfl fun a hA => ?_
 refine sq hA (q_buildV (vs := [I (cs.getD 1 0), I (2 * cs.getD 0 0 + 1), I (8)]) (zs := [(I 0), (I 0), (I 0)]) (it := Tryz.t95) (ie := Tryz.t3) (by kernel_rfl) Tryz.underlying95 (by kernel_rfl) (by kernel_rfl) rfl rfl rfl (ones_cons rfl (ones_cons rfl (ones_cons rfl ones_nil)))) rfl fun a hA => ?_
 refine sq hA (q_fld 2 Tryz.underlying23 rfl rfl ti3 rfl) rfl fun a hA => ?_
 refine sq hA (q_loadBm ((0 : Int)) hH 0 rfl Tryz.underlying3 rfl rfl (by first | omega | (simp; done) | (simp; omega) | (rw [List.length_map]; assumption) | assumption | rfl | (simp [*]; done) | (simp [*]; omega))) rfl fun a hA => ?_
 refine sq hA (q_buildV (vs := [I (cs.getD 2 0), I (0), I (6)]) (zs := [(I 0), (I 0), (I 0)]) (it := Tryz.t95) (ie := Tryz.t3) (by kernel_rfl) Tryz.underlying95 (by kernel_rfl) (by kernel_rfl) rfl rfl rfl (ones_cons rfl (ones_cons rfl (ones_cons rfl ones_nil)))) rfl fun a hA => ?_
 refine sq hA (q_fld 6 Tryz.underlying23 rfl rfl ti3 rfl) rfl fun a hA => ?_
 refine sq hA (q_loadBm ((0 : Int)) hH 0 rfl Tryz.underlying3 rfl rfl (by first | omega | (simp; done) | (simp; omega) | (rw [List.length_map]; assumption) | assumption | rfl | (simp [*]; done) | (simp [*]; omega))) rfl fun a hA => ?_
 refine sq hA (q_buildV (vs := [I (cs.getD 6 0), I (0), I (6)]) (zs := [(I 0), (I 0), (I 0)]) (it := Tryz.t95) (ie := Tryz.t3) (by kernel_rfl) Tryz.underlying95 (by kernel_rfl) (by kernel_rfl) rfl rfl rfl (ones_cons rfl (ones_cons rfl (ones_cons rfl ones_nil)))) rfl fun a hA => ?_
 refine sq hA (q_fld 3 Tryz.underlying23 rfl rfl ti3 rfl) rfl fun a hA => ?_
 refine sq hA (q_loadBm ((0 : Int)) hH 0 rfl Tryz.underlying3 rfl rfl (by first | omega | (simp; done) | (simp; omega) | (rw [List.length_map]; assumption) | assumption | rfl | (simp [*]; done) | (simp [*]; omega))) rfl fun a hA => ?_
 refine sq hA (q_buildV (vs := [I (cs.getD 3 0), I (1), I (256)]) (zs := [(I 0), (I 0), (I 0)]) (it := Tryz.t95) (ie := Tryz.t3) (by kernel_rfl) Tryz.underlying95 (by kernel_rfl) (by kernel_rfl) rfl rfl rfl (ones_cons rfl (ones_cons rfl (ones_cons rfl ones_nil)))) rfl fun a hA => ?_
 refine sq hA (q_fld 4 Tryz.underlying23 rfl rfl ti3 rfl) rfl fun a hA => ?_
 refine sq hA (q_loadBm ((0 : Int)) hH 0 rfl Tryz.underlying3 rfl rfl (by first | omega | (simp; done) | (simp; omega) | (rw [List.length_map]; assumption) | assumption | rfl | (simp [*]; done) | (simp [*]; omega))) rfl fun a hA => ?_
 refine sq hA (q_buildV (vs := [I (cs.getD 4 0), I (1), I (64)]) (zs := [(I 0), (I 0), (I 0)]) (it := Tryz.t95) (ie := Tryz.t3) (by kernel_rfl) Tryz.underlying95 (by kernel_rfl) (by kernel_rfl) rfl rfl rfl (ones_cons rfl (ones_cons rfl (ones_cons rfl ones_nil)))) rfl fun a hA => ?_
 refine sq hA (q_fld 5 Tryz.underlying23 rfl rfl ti3 rfl) rfl fun a hA => ?_
 refine sq hA (q_loadBm ((0 : Int)) hH 0 rfl Tryz.underlying3 rfl rfl (by first | omega | (simp; done) | (simp; omega) | (rw [List.length_map]; assumption) | assumption | rfl | (simp [*]; done) | (simp [*]; omega))) rfl fun a hA => ?_
 refine sq hA (q_buildV (vs := [I (cs.getD 5 0), I (1), I (10000)]) (zs := [(I 0), (I 0), (I 0)]) (it := Tryz.t95) (ie := Tryz.t3) (by kernel_rfl) Tryz.underlying95 (by kernel_rfl) (by kernel_rfl) rfl rfl rfl (ones_cons rfl (ones_cons rfl (ones_cons rfl ones_nil)))) rfl fun a hA => ?_
 refine sq hA (q_build (v := .agg (#[I (cs.getD 0 0), I (0), I (2), I (cs.getD 1 0), I (2 * cs.getD 0 0 + 1), I (8), I (cs.getD 2 0), I (0), I (6), I (cs.getD 6 0), I (0), I (6), I (cs.getD 3 0), I (1), I (256), I (cs.getD 4 0), I (1), I (64), I (cs.getD 5 0), I (1), I (10000)] : Array Value)) (vs := [(0, .agg #[I (cs.getD 0 0), I (0), I (2)]), (1, .agg #[I (cs.getD 1 0), I (2 * cs.getD 0 0 + 1), I (8)]), (2, .agg #[I (cs.getD 2 0), I (0), I (6)]), (3, .agg #[I (cs.getD 6 0), I (0), I (6)]), (4, .agg #[I (cs.getD 3 0), I (1), I (256)]), (5, .agg #[I (cs.getD 4 0), I (1), I (64)]), (6, .agg #[I (cs.getD 5 0), I (1), I (10000)])]) rfl (fun w => run_build w _ _ _ (by kernel_rfl))) rfl fun a hA => ?_
 refine mv hA fun a hA => ?_
 refine wpList_nil ?_
 refine hK3 _ _ ?_
 clear hK3
 replace hA := hA.s3 31 30 2
 refine wp_block ?_
 replace hH := HS.fold [] [_] hH
 obtain ⟨NR4, hNR4, hH⟩ := hH
 refine wp_loop_ghost (fun gm a w => ∃ q : Nat, At 43 [(31, I q), (30, (.agg (#[I (cs.getD 0 0), I (0), I (2), I (cs.getD 1 0), I (2 * cs.getD 0 0 + 1), I (8), I (cs.getD 2 0), I (0), I (6), I (cs.getD 6 0), I (0), I (6), I (cs.getD 3 0), I (1), I (256), I (cs.getD 4 0), I (1), I (64), I (cs.getD 5 0), I (1), I (10000)] : Array Value))), (2, (I 0))] a ∧ HS [] w0 w ([NR4]) ∧ (q ≤ 7) ∧ (PreC cs q) ∧ gm = 7 - q) (7 - (0)) ⟨0, hA.sub ⟨rfl, rfl, rfl, trivial⟩, hH, by omega, by (unfold PreC; omega), rfl⟩ ?_
 clear hA hH
 rintro gm a w ⟨q, hA, hH, hq, hpc, rfl⟩
 refine wp_seq_k fun K5 hK5 => ?_
 refine wp_region_lit ?_
 refine sq hA (q_lssI (n := 7) rfl rfl) rfl fun a hA => ?_
 rcases (show q = 0 ∨ q = 1 ∨ q = 2 ∨ q = 3 ∨ q = 4 ∨ q = 5 ∨ q = 6 ∨ q = 7 by omega) with rfl | rfl | rfl | rfl | rfl | rfl | rfl | rfl
 ·skip
  replace hA := hA.decT (by decide)
  refine wpList_nil ?_
  refine hK5 _ _ ?_
  clear hK5
  refine wp_seq_k fun K6 hK6 => ?_
  refine cond_t hA rfl ?_
  refine wp_skip ?_
  refine hK6 _ _ ?_
  clear hK6
  refine wp_seq_k fun K7 hK7 => ?_
  refine wp_block ?_
  refine wp_seq_k fun K8 hK8 => ?_
  refine wp_region_lit ?_
  refine sq hA (q_indexAg Tryz.underlying102 ti95 Tryz.underlying95 rfl rfl rfl ⟨by decide, by decide⟩ [I (cs.getD 0 0), I (0), I (2)] rfl) rfl fun a hA => ?_
  refine sl hA (lo_allocA hH ti95) rfl ?_
  clear hH; rintro _ w ⟨b_t4, rfl, hH⟩ a hA
  refine s0 hA (lo_storeAm hH ti95 rfl rfl (by first | rfl) (by first | rfl) (ones_cons rfl (ones_cons rfl (ones_cons rfl ones_nil)))) ?_
  clear hH; rintro _ w hH
  refine wpList_nil ?_
  refine hK8 _ _ ?_
  clear hK8
  refine wp_seq_k fun K9 hK9 => ?_
  refine wp_region_lit ?_
  refine sq hA (q_idxA1 (0) Tryz.underlying95 ti3 rfl rfl (rfl) (by first | omega | (simp; done) | (simp; omega) | (rw [List.length_map]; assumption) | assumption | rfl | (simp [*]; done) | (simp [*]; omega))) rfl fun a hA => ?_
  refine sq hA (q_loadB hH 0 rfl (List.mem_singleton.2 rfl) Tryz.underlying3 rfl rfl rfl) rfl fun a hA => ?_
  refine sq hA (q_idxA1 (1) Tryz.underlying95 ti3 rfl rfl (rfl) (by first | omega | (simp; done) | (simp; omega) | (rw [List.length_map]; assumption) | assumption | rfl | (simp [*]; done) | (simp [*]; omega))) rfl fun a hA => ?_
  refine sq hA (q_loadB hH 0 rfl (List.mem_singleton.2 rfl) Tryz.underlying3 rfl rfl rfl) rfl fun a hA => ?_
  refine sq hA (q_idxA1 (2) Tryz.underlying95 ti3 rfl rfl (rfl) (by first | omega | (simp; done) | (simp; omega) | (rw [List.length_map]; assumption) | assumption | rfl | (simp [*]; done) | (simp [*]; omega))) rfl fun a hA => ?_
  refine sq hA (q_loadB hH 0 rfl (List.mem_singleton.2 rfl) Tryz.underlying3 rfl rfl rfl) rfl fun a hA => ?_
  refine sl hA (lo_call fn46 rfl (between_any _ _ _)) rfl ?_
  rintro _ w ⟨rfl, hC⟩ a hA
  replace hH := HS.call0 hH hC
  clear hC
  refine hA.spl (fun hs40 hA => ?_) (fun hs40 hA => ?_)
  ·skip
   refine sq hA (q_not rfl) rfl fun a hA => ?_
   refine wpList_nil ?_
   refine hK9 _ _ ?_
   clear hK9
   refine cond_f hA rfl ?_
   refine wp_skip ?_
   refine block_normal ?_
   refine hK7 _ _ ?_
   clear hK7
   refine wp_region_lit ?_
   refine sq hA (q_addI (n := 1) rfl rfl (by omega)) rfl fun a hA => ?_
   refine mv hA fun a hA => ?_
   refine wpList_nil ?_
   replace hH := hH.pick [1, 0] (Hs' := [_, _]) rfl
   replace hH := hH.pick [0] (Hs' := [_]) rfl
   exact ⟨_, by omega, 1, hA.sub ⟨rfl, rfl, rfl, trivial⟩, hH, by omega, by (unfold PreC at *; omega), rfl⟩
  ·skip
   refine sq hA (q_not rfl) rfl fun a hA => ?_
   refine wpList_nil ?_
   refine hK9 _ _ ?_
   clear hK9
   refine cond_t hA rfl ?_
   refine wp_seq_k fun K10 hK10 => ?_
   refine wp_region_lit ?_
   refine asg hA fun a hA => ?_
   refine wpList_nil ?_
   refine hK10 _ _ ?_
   clear hK10
   refine wp_ret ?_
   refine block_ret ?_
   refine then_ret ?_
   refine then_ret ?_
   refine block_ret ?_
   refine then_ret ?_
   replace hH := HS.unfold [_] hNR4 hH
   refine post_ret hA (res_1 rfl hA rfl) ?_
   replace hH := hH.pick [] (Hs' := []) rfl
   exact ⟨_, rfl, rfl, hH⟩
 ·skip
  replace hA := hA.decT (by decide)
  refine wpList_nil ?_
  refine hK5 _ _ ?_
  clear hK5
  refine wp_seq_k fun K11 hK11 => ?_
  refine cond_t hA rfl ?_
  refine wp_skip ?_
  refine hK11 _ _ ?_
  clear hK11
  refine wp_seq_k fun K12 hK12 => ?_
  refine wp_block ?_
  refine wp_seq_k fun K13 hK13 => ?_
  refine wp_region_lit ?_
  refine sq hA (q_indexAg Tryz.underlying102 ti95 Tryz.underlying95 rfl rfl rfl ⟨by decide, by decide⟩ [I (cs.getD 1 0), I (2 * cs.getD 0 0 + 1), I (8)] rfl) rfl fun a hA => ?_
  refine sl hA (lo_allocA hH ti95) rfl ?_
  clear hH; rintro _ w ⟨b_t4, rfl, hH⟩ a hA
  refine s0 hA (lo_storeAm hH ti95 rfl rfl (by first | rfl) (by first | rfl) (ones_cons rfl (ones_cons rfl (ones_cons rfl ones_nil)))) ?_
  clear hH; rintro _ w hH
  refine wpList_nil ?_
  refine hK13 _ _ ?_
  clear hK13
  refine wp_seq_k fun K14 hK14 => ?_
  refine wp_region_lit ?_
  refine sq hA (q_idxA1 (0) Tryz.underlying95 ti3 rfl rfl (rfl) (by first | omega | (simp; done) | (simp; omega) | (rw [List.length_map]; assumption) | assumption | rfl | (simp [*]; done) | (simp [*]; omega))) rfl fun a hA => ?_
  refine sq hA (q_loadB hH 0 rfl (List.mem_singleton.2 rfl) Tryz.underlying3 rfl rfl rfl) rfl fun a hA => ?_
  refine sq hA (q_idxA1 (1) Tryz.underlying95 ti3 rfl rfl (rfl) (by first | omega | (simp; done) | (simp; omega) | (rw [List.length_map]; assumption) | assumption | rfl | (simp [*]; done) | (simp [*]; omega))) rfl fun a hA => ?_
  refine sq hA (q_loadB hH 0 rfl (List.mem_singleton.2 rfl) Tryz.underlying3 rfl rfl rfl) rfl fun a hA => ?_
  refine sq hA (q_idxA1 (2) Tryz.underlying95 ti3 rfl rfl (rfl) (by first | omega | (simp; done) | (simp; omega) | (rw [List.length_map]; assumption) | assumption | rfl | (simp [*]; done) | (simp [*]; omega))) rfl fun a hA => ?_
  refine sq hA (q_loadB hH 0 rfl (List.mem_singleton.2 rfl) Tryz.underlying3 rfl rfl rfl) rfl fun a hA => ?_
  refine sl hA (lo_call fn46 rfl (between_any _ _ _)) rfl ?_
  rintro _ w ⟨rfl, hC⟩ a hA
  replace hH := HS.call0 hH hC
  clear hC
  refine hA.spl (fun hs40 hA => ?_) (fun hs40 hA => ?_)
  ·skip
   refine sq hA (q_not rfl) rfl fun a hA => ?_
   refine wpList_nil ?_
   refine hK14 _ _ ?_
   clear hK14
   refine cond_f hA rfl ?_
   refine wp_skip ?_
   refine block_normal ?_
   refine hK12 _ _ ?_
   clear hK12
   refine wp_region_lit ?_
   refine sq hA (q_addI (n := 1) rfl rfl (by omega)) rfl fun a hA => ?_
   refine mv hA fun a hA => ?_
   refine wpList_nil ?_
   replace hH := hH.pick [1, 0] (Hs' := [_, _]) rfl
   replace hH := hH.pick [0] (Hs' := [_]) rfl
   exact ⟨_, by omega, 2, hA.sub ⟨rfl, rfl, rfl, trivial⟩, hH, by omega, by (unfold PreC at *; omega), rfl⟩
  ·skip
   refine sq hA (q_not rfl) rfl fun a hA => ?_
   refine wpList_nil ?_
   refine hK14 _ _ ?_
   clear hK14
   refine cond_t hA rfl ?_
   refine wp_seq_k fun K15 hK15 => ?_
   refine wp_region_lit ?_
   refine asg hA fun a hA => ?_
   refine wpList_nil ?_
   refine hK15 _ _ ?_
   clear hK15
   refine wp_ret ?_
   refine block_ret ?_
   refine then_ret ?_
   refine then_ret ?_
   refine block_ret ?_
   refine then_ret ?_
   replace hH := HS.unfold [_] hNR4 hH
   refine post_ret hA (res_1 rfl hA rfl) ?_
   replace hH := hH.pick [] (Hs' := []) rfl
   exact ⟨_, rfl, rfl, hH⟩
 ·skip
  replace hA := hA.decT (by decide)
  refine wpList_nil ?_
  refine hK5 _ _ ?_
  clear hK5
  refine wp_seq_k fun K16 hK16 => ?_
  refine cond_t hA rfl ?_
  refine wp_skip ?_
  refine hK16 _ _ ?_
  clear hK16
  refine wp_seq_k fun K17 hK17 => ?_
  refine wp_block ?_
  refine wp_seq_k fun K18 hK18 => ?_
  refine wp_region_lit ?_
  refine sq hA (q_indexAg Tryz.underlying102 ti95 Tryz.underlying95 rfl rfl rfl ⟨by decide, by decide⟩ [I (cs.getD 2 0), I (0), I (6)] rfl) rfl fun a hA => ?_
  refine sl hA (lo_allocA hH ti95) rfl ?_
  clear hH; rintro _ w ⟨b_t4, rfl, hH⟩ a hA
  refine s0 hA (lo_storeAm hH ti95 rfl rfl (by first | rfl) (by first | rfl) (ones_cons rfl (ones_cons rfl (ones_cons rfl ones_nil)))) ?_
  clear hH; rintro _ w hH
  refine wpList_nil ?_
  refine hK18 _ _ ?_
  clear hK18
  refine wp_seq_k fun K19 hK19 => ?_
  refine wp_region_lit ?_
  refine sq hA (q_idxA1 (0) Tryz.underlying95 ti3 rfl rfl (rfl) (by first | omega | (simp; done) | (simp; omega) | (rw [List.length_map]; assumption) | assumption | rfl | (simp [*]; done) | (simp [*]; omega))) rfl fun a hA => ?_
  refine sq hA (q_loadB hH 0 rfl (List.mem_singleton.2 rfl) Tryz.underlying3 rfl rfl rfl) rfl fun a hA => ?_
  refine sq hA (q_idxA1 (1) Tryz.underlying95 ti3 rfl rfl (rfl) (by first | omega | (simp; done) | (simp; omega) | (rw [List.length_map]; assumption) | assumption | rfl | (simp [*]; done) | (simp [*]; omega))) rfl fun a hA => ?_
  refine sq hA (q_loadB hH 0 rfl (List.mem_singleton.2 rfl) Tryz.underlying3 rfl rfl rfl) rfl fun a hA => ?_
  refine sq hA (q_idxA1 (2) Tryz.underlying95 ti3 rfl rfl (rfl) (by first | omega | (simp; done) | (simp; omega) | (rw [List.length_map]; assumption) | assumption | rfl | (simp [*]; done) | (simp [*]; omega))) rfl fun a hA => ?_
  refine sq hA (q_loadB hH 0 rfl (List.mem_singleton.2 rfl) Tryz.underlying3 rfl rfl rfl) rfl fun a hA => ?_
  refine sl hA (lo_call fn46 rfl (between_any _ _ _)) rfl ?_
  rintro _ w ⟨rfl, hC⟩ a hA
  replace hH := HS.call0 hH hC
  clear hC
  refine hA.spl (fun hs40 hA => ?_) (fun hs40 hA => ?_)
  ·skip
   refine sq hA (q_not rfl) rfl fun a hA => ?_
   refine wpList_nil ?_
   refine hK19 _ _ ?_
   clear hK19
   refine cond_f hA rfl ?_
   refine wp_skip ?_
   refine block_normal ?_
   refine hK17 _ _ ?_
   clear hK17
   refine wp_region_lit ?_
   refine sq hA (q_addI (n := 1) rfl rfl (by omega)) rfl fun a hA => ?_
   refine mv hA fun a hA => ?_
   refine wpList_nil ?_
   replace hH := hH.pick [1, 0] (Hs' := [_, _]) rfl
   replace hH := hH.pick [0] (Hs' := [_]) rfl
   exact ⟨_, by omega, 3, hA.sub ⟨rfl, rfl, rfl, trivial⟩, hH, by omega, by (unfold PreC at *; omega), rfl⟩
  ·skip
   refine sq hA (q_not rfl) rfl fun a hA => ?_
   refine wpList_nil ?_
   refine hK19 _ _ ?_
   clear hK19
   refine cond_t hA rfl ?_
   refine wp_seq_k fun K20 hK20 => ?_
   refine wp_region_lit ?_
   refine asg hA fun a hA => ?_
   refine wpList_nil ?_
   refine hK20 _ _ ?_
   clear hK20
   refine wp_ret ?_
   refine block_ret ?_
   refine then_ret ?_
   refine then_ret ?_
   refine block_ret ?_
   refine then_ret ?_
   replace hH := HS.unfold [_] hNR4 hH
   refine post_ret hA (res_1 rfl hA rfl) ?_
   replace hH := hH.pick [] (Hs' := []) rfl
   exact ⟨_, rfl, rfl, hH⟩
 ·skip
  replace hA := hA.decT (by decide)
  refine wpList_nil ?_
  refine hK5 _ _ ?_
  clear hK5
  refine wp_seq_k fun K21 hK21 => ?_
  refine cond_t hA rfl ?_
  refine wp_skip ?_
  refine hK21 _ _ ?_
  clear hK21
  refine wp_seq_k fun K22 hK22 => ?_
  refine wp_block ?_
  refine wp_seq_k fun K23 hK23 => ?_
  refine wp_region_lit ?_
  refine sq hA (q_indexAg Tryz.underlying102 ti95 Tryz.underlying95 rfl rfl rfl ⟨by decide, by decide⟩ [I (cs.getD 6 0), I (0), I (6)] rfl) rfl fun a hA => ?_
  refine sl hA (lo_allocA hH ti95) rfl ?_
  clear hH; rintro _ w ⟨b_t4, rfl, hH⟩ a hA
  refine s0 hA (lo_storeAm hH ti95 rfl rfl (by first | rfl) (by first | rfl) (ones_cons rfl (ones_cons rfl (ones_cons rfl ones_nil)))) ?_
  clear hH; rintro _ w hH
  refine wpList_nil ?_
  refine hK23 _ _ ?_
  clear hK23
  refine wp_seq_k fun K24 hK24 => ?_
  refine wp_region_lit ?_
  refine sq hA (q_idxA1 (0) Tryz.underlying95 ti3 rfl rfl (rfl) (by first | omega | (simp; done) | (simp; omega) | (rw [List.length_map]; assumption) | assumption | rfl | (simp [*]; done) | (simp [*]; omega))) rfl fun a hA => ?_
  refine sq hA (q_loadB hH 0 rfl (List.mem_singleton.2 rfl) Tryz.underlying3 rfl rfl rfl) rfl fun a hA => ?_
  refine sq hA (q_idxA1 (1) Tryz.underlying95 ti3 rfl rfl (rfl) (by first | omega | (simp; done) | (simp; omega) | (rw [List.length_map]; assumption) | assumption | rfl | (simp [*]; done) | (simp [*]; omega))) rfl fun a hA => ?_
  refine sq hA (q_loadB hH 0 rfl (List.mem_singleton.2 rfl) Tryz.underlying3 rfl rfl rfl) rfl fun a hA => ?_
  refine sq hA (q_idxA1 (2) Tryz.underlying95 ti3 rfl rfl (rfl) (by first | omega | (simp; done) | (simp; omega) | (rw [List.length_map]; assumption) | assumption | rfl | (simp [*]; done) | (simp [*]; omega))) rfl fun a hA => ?_
  refine sq hA (q_loadB hH 0 rfl (List.mem_singleton.2 rfl) Tryz.underlying3 rfl rfl rfl) rfl fun a hA => ?_
  refine sl hA (lo_call fn46 rfl (between_any _ _ _)) rfl ?_
  rintro _ w ⟨rfl, hC⟩ a hA
  replace hH := HS.call0 hH hC
  clear hC
  refine hA.spl (fun hs40 hA => ?_) (fun hs40 hA => ?_)
  ·skip
   refine sq hA (q_not rfl) rfl fun a hA => ?_
   refine wpList_nil ?_
   refine hK24 _ _ ?_
   clear hK24
   refine cond_f hA rfl ?_
   refine wp_skip ?_
   refine block_normal ?_
   refine hK22 _ _ ?_
   clear hK22
   refine wp_region_lit ?_
   refine sq hA (q_addI (n := 1) rfl rfl (by omega)) rfl fun a hA => ?_
   refine mv hA fun a hA => ?_
   refine wpList_nil ?_
   replace hH := hH.pick [1, 0] (Hs' := [_, _]) rfl
   replace hH := hH.pick [0] (Hs' := [_]) rfl
   exact ⟨_, by omega, 4, hA.sub ⟨rfl, rfl, rfl, trivial⟩, hH, by omega, by (unfold PreC at *; omega), rfl⟩
  ·skip
   refine sq hA (q_not rfl) rfl fun a hA => ?_
   refine wpList_nil ?_
   refine hK24 _ _ ?_
   clear hK24
   refine cond_t hA rfl ?_
   refine wp_seq_k fun K25 hK25 => ?_
   refine wp_region_lit ?_
   refine asg hA fun a hA => ?_
   refine wpList_nil ?_
   refine hK25 _ _ ?_
   clear hK25
   refine wp_ret ?_
   refine block_ret ?_
   refine then_ret ?_
   refine then_ret ?_
   refine block_ret ?_
   refine then_ret ?_
   replace hH := HS.unfold [_] hNR4 hH
   refine post_ret hA (res_1 rfl hA rfl) ?_
   replace hH := hH.pick [] (Hs' := []) rfl
   exact ⟨_, rfl, rfl, hH⟩
 ·skip
  replace hA := hA.decT (by decide)
  refine wpList_nil ?_
  refine hK5 _ _ ?_
  clear hK5
  refine wp_seq_k fun K26 hK26 => ?_
  refine cond_t hA rfl ?_
  refine wp_skip ?_
  refine hK26 _ _ ?_
  clear hK26
  refine wp_seq_k fun K27 hK27 => ?_
  refine wp_block ?_
  refine wp_seq_k fun K28 hK28 => ?_
  refine wp_region_lit ?_
  refine sq hA (q_indexAg Tryz.underlying102 ti95 Tryz.underlying95 rfl rfl rfl ⟨by decide, by decide⟩ [I (cs.getD 3 0), I (1), I (256)] rfl) rfl fun a hA => ?_
  refine sl hA (lo_allocA hH ti95) rfl ?_
  clear hH; rintro _ w ⟨b_t4, rfl, hH⟩ a hA
  refine s0 hA (lo_storeAm hH ti95 rfl rfl (by first | rfl) (by first | rfl) (ones_cons rfl (ones_cons rfl (ones_cons rfl ones_nil)))) ?_
  clear hH; rintro _ w hH
  refine wpList_nil ?_
  refine hK28 _ _ ?_
  clear hK28
  refine wp_seq_k fun K29 hK29 => ?_
  refine wp_region_lit ?_
  refine sq hA (q_idxA1 (0) Tryz.underlying95 ti3 rfl rfl (rfl) (by first | omega | (simp; done) | (simp; omega) | (rw [List.length_map]; assumption) | assumption | rfl | (simp [*]; done) | (simp [*]; omega))) rfl fun a hA => ?_
  refine sq hA (q_loadB hH 0 rfl (List.mem_singleton.2 rfl) Tryz.underlying3 rfl rfl rfl) rfl fun a hA => ?_
  refine sq hA (q_idxA1 (1) Tryz.underlying95 ti3 rfl rfl (rfl) (by first | omega | (simp; done) | (simp; omega) | (rw [List.length_map]; assumption) | assumption | rfl | (simp [*]; done) | (simp [*]; omega))) rfl fun a hA => ?_
  refine sq hA (q_loadB hH 0 rfl (List.mem_singleton.2 rfl) Tryz.underlying3 rfl rfl rfl) rfl fun a hA => ?_
  refine sq hA (q_idxA1 (2) Tryz.underlying95 ti3 rfl rfl (rfl) (by first | omega | (simp; done) | (simp; omega) | (rw [List.length_map]; assumption) | assumption | rfl | (simp [*]; done) | (simp [*]; omega))) rfl fun a hA => ?_
  refine sq hA (q_loadB hH 0 rfl (List.mem_singleton.2 rfl) Tryz.underlying3 rfl rfl rfl) rfl fun a hA => ?_
  refine sl hA (lo_call fn46 rfl (between_any _ _ _)) rfl ?_
  rintro _ w ⟨rfl, hC⟩ a hA
  replace hH := HS.call0 hH hC
  clear hC
  refine hA.spl (fun hs40 hA => ?_) (fun hs40 hA => ?_)
  ·skip
   refine sq hA (q_not rfl) rfl fun a hA => ?_
   refine wpList_nil ?_
   refine hK29 _ _ ?_
   clear hK29
   refine cond_f hA rfl ?_
   refine wp_skip ?_
   refine block_normal ?_
   refine hK27 _ _ ?_
   clear hK27
   refine wp_region_lit ?_
   refine sq hA (q_addI (n := 1) rfl rfl (by omega)) rfl fun a hA => ?_
   refine mv hA fun a hA => ?_
   refine wpList_nil ?_
   replace hH := hH.pick [1, 0] (Hs' := [_, _]) rfl
   replace hH := hH.pick [0] (Hs' := [_]) rfl
   exact ⟨_, by omega, 5, hA.sub ⟨rfl, rfl, rfl, trivial⟩, hH, by omega, by (unfold PreC at *; omega), rfl⟩
  ·skip
   refine sq hA (q_not rfl) rfl fun a hA => ?_
   refine wpList_nil ?_
   refine hK29 _ _ ?_
   clear hK29
   refine cond_t hA rfl ?_
   refine wp_seq_k fun K30 hK30 => ?_
   refine wp_region_lit ?_
   refine asg hA fun a hA => ?_
   refine wpList_nil ?_
   refine hK30 _ _ ?_
   clear hK30
   refine wp_ret ?_
   refine block_ret ?_
   refine then_ret ?_
   refine then_ret ?_
   refine block_ret ?_
   refine then_ret ?_
   replace hH := HS.unfold [_] hNR4 hH
   refine post_ret hA (res_1 rfl hA rfl) ?_
   replace hH := hH.pick [] (Hs' := []) rfl
   exact ⟨_, rfl, rfl, hH⟩
 ·skip
  replace hA := hA.decT (by decide)
  refine wpList_nil ?_
  refine hK5 _ _ ?_
  clear hK5
  refine wp_seq_k fun K31 hK31 => ?_
  refine cond_t hA rfl ?_
  refine wp_skip ?_
  refine hK31 _ _ ?_
  clear hK31
  refine wp_seq_k fun K32 hK32 => ?_
  refine wp_block ?_
  refine wp_seq_k fun K33 hK33 => ?_
  refine wp_region_lit ?_
  refine sq hA (q_indexAg Tryz.underlying102 ti95 Tryz.underlying95 rfl rfl rfl ⟨by decide, by decide⟩ [I (cs.getD 4 0), I (1), I (64)] rfl) rfl fun a hA => ?_
  refine sl hA (lo_allocA hH ti95) rfl ?_
  clear hH; rintro _ w ⟨b_t4, rfl, hH⟩ a hA
  refine s0 hA (lo_storeAm hH ti95 rfl rfl (by first | rfl) (by first | rfl) (ones_cons rfl (ones_cons rfl (ones_cons rfl ones_nil)))) ?_
  clear hH; rintro _ w hH
  refine wpList_nil ?_
  refine hK33 _ _ ?_
  clear hK33
  refine wp_seq_k fun K34 hK34 => ?_
  refine wp_region_lit ?_
  refine sq hA (q_idxA1 (0) Tryz.underlying95 ti3 rfl rfl (rfl) (by first | omega | (simp; done) | (simp; omega) | (rw [List.length_map]; assumption) | assumption | rfl | (simp [*]; done) | (simp [*]; omega))) rfl fun a hA => ?_
  refine sq hA (q_loadB hH 0 rfl (List.mem_singleton.2 rfl) Tryz.underlying3 rfl rfl rfl) rfl fun a hA => ?_
  refine sq hA (q_idxA1 (1) Tryz.underlying95 ti3 rfl rfl (rfl) (by first | omega | (simp; done) | (simp; omega) | (rw [List.length_map]; assumption) | assumption | rfl | (simp [*]; done) | (simp [*]; omega))) rfl fun a hA => ?_
  refine sq hA (q_loadB hH 0 rfl (List.mem_singleton.2 rfl) Tryz.underlying3 rfl rfl rfl) rfl fun a hA => ?_
  refine sq hA (q_idxA1 (2) Tryz.underlying95 ti3 rfl rfl (rfl) (by first | omega | (simp; done) | (simp; omega) | (rw [List.length_map]; assumption) | assumption | rfl | (simp [*]; done) | (simp [*]; omega))) rfl fun a hA => ?_
  refine sq hA (q_loadB hH 0 rfl (List.mem_singleton.2 rfl) Tryz.underlying3 rfl rfl rfl) rfl fun a hA => ?_
  refine sl hA (lo_call fn46 rfl (between_any _ _ _)) rfl ?_
  rintro _ w ⟨rfl, hC⟩ a hA
  replace hH := HS.call0 hH hC
  clear hC
  refine hA.spl (fun hs40 hA => ?_) (fun hs40 hA => ?_)
  ·skip
   refine sq hA (q_not rfl) rfl fun a hA => ?_
   refine wpList_nil ?_
   refine hK34 _ _ ?_
   clear hK34
   refine cond_f hA rfl ?_
   refine wp_skip ?_
   refine block_normal ?_
   refine hK32 _ _ ?_
   clear hK32
   refine wp_region_lit ?_
   refine sq hA (q_addI (n := 1) rfl rfl (by omega)) rfl fun a hA => ?_
   refine mv hA fun a hA => ?_
   refine wpList_nil ?_
   replace hH := hH.pick [1, 0] (Hs' := [_, _]) rfl
   replace hH := hH.pick [0] (Hs' := [_]) rfl
   exact ⟨_, by omega, 6, hA.sub ⟨rfl, rfl, rfl, trivial⟩, hH, by omega, by (unfold PreC at *; omega), rfl⟩
  ·skip
   refine sq hA (q_not rfl) rfl fun a hA => ?_
   refine wpList_nil ?_
   refine hK34 _ _ ?_
   clear hK34
   refine cond_t hA rfl ?_
   refine wp_seq_k fun K35 hK35 => ?_
   refine wp_region_lit ?_
   refine asg hA fun a hA => ?_
   refine wpList_nil ?_
   refine hK35 _ _ ?_
   clear hK35
   refine wp_ret ?_
   refine block_ret ?_
   refine then_ret ?_
   refine then_ret ?_
   refine block_ret ?_
   refine then_ret ?_
   replace hH := HS.unfold [_] hNR4 hH
   refine post_ret hA (res_1 rfl hA rfl) ?_
   replace hH := hH.pick [] (Hs' := []) rfl
   exact ⟨_, rfl, rfl, hH⟩
 ·skip
  replace hA := hA.decT (by decide)
  refine wpList_nil ?_
  refine hK5 _ _ ?_
  clear hK5
  refine wp_seq_k fun K36 hK36 => ?_
  refine cond_t hA rfl ?_
  refine wp_skip ?_
  refine hK36 _ _ ?_
  clear hK36
  refine wp_seq_k fun K37 hK37 => ?_
  refine wp_block ?_
  refine wp_seq_k fun K38 hK38 => ?_
  refine wp_region_lit ?_
  refine sq hA (q_indexAg Tryz.underlying102 ti95 Tryz.underlying95 rfl rfl rfl ⟨by decide, by decide⟩ [I (cs.getD 5 0), I (1), I (10000)] rfl) rfl fun a hA => ?_
  refine sl hA (lo_allocA hH ti95) rfl ?_
  clear hH; rintro _ w ⟨b_t4, rfl, hH⟩ a hA
  refine s0 hA (lo_storeAm hH ti95 rfl rfl (by first | rfl) (by first | rfl) (ones_cons rfl (ones_cons rfl (ones_cons rfl ones_nil)))) ?_
  clear hH; rintro _ w hH
  refine wpList_nil ?_
  refine hK38 _ _ ?_
  clear hK38
  refine wp_seq_k fun K39 hK39 => ?_
  refine wp_region_lit ?_
  refine sq hA (q_idxA1 (0) Tryz.underlying95 ti3 rfl rfl (rfl) (by first | omega | (simp; done) | (simp; omega) | (rw [List.length_map]; assumption) | assumption | rfl | (simp [*]; done) | (simp [*]; omega))) rfl fun a hA => ?_
  refine sq hA (q_loadB hH 0 rfl (List.mem_singleton.2 rfl) Tryz.underlying3 rfl rfl rfl) rfl fun a hA => ?_
  refine sq hA (q_idxA1 (1) Tryz.underlying95 ti3 rfl rfl (rfl) (by first | omega | (simp; done) | (simp; omega) | (rw [List.length_map]; assumption) | assumption | rfl | (simp [*]; done) | (simp [*]; omega))) rfl fun a hA => ?_
  refine sq hA (q_loadB hH 0 rfl (List.mem_singleton.2 rfl) Tryz.underlying3 rfl rfl rfl) rfl fun a hA => ?_
  refine sq hA (q_idxA1 (2) Tryz.underlying95 ti3 rfl rfl (rfl) (by first | omega | (simp; done) | (simp; omega) | (rw [List.length_map]; assumption) | assumption | rfl | (simp [*]; done) | (simp [*]; omega))) rfl fun a hA => ?_
  refine sq hA (q_loadB hH 0 rfl (List.mem_singleton.2 rfl) Tryz.underlying3 rfl rfl rfl) rfl fun a hA => ?_
  refine sl hA (lo_call fn46 rfl (between_any _ _ _)) rfl ?_
  rintro _ w ⟨rfl, hC⟩ a hA
  replace hH := HS.call0 hH hC
  clear hC
  refine hA.spl (fun hs40 hA => ?_) (fun hs40 hA => ?_)
  ·skip
   refine sq hA (q_not rfl) rfl fun a hA => ?_
   refine wpList_nil ?_
   refine hK39 _ _ ?_
   clear hK39
   refine cond_f hA rfl ?_
   refine wp_skip ?_
   refine block_normal ?_
   refine hK37 _ _ ?_
   clear hK37
   refine wp_region_lit ?_
   refine sq hA (q_addI (n := 1) rfl rfl (by omega)) rfl fun a hA => ?_
   refine mv hA fun a hA => ?_
   refine wpList_nil ?_
   replace hH := hH.pick [1, 0] (Hs' := [_, _]) rfl
   replace hH := hH.pick [0] (Hs' := [_]) rfl
   exact ⟨_, by omega, 7, hA.sub ⟨rfl, rfl, rfl, trivial⟩, hH, by omega, by (unfold PreC at *; omega), rfl⟩
  ·skip
   refine sq hA (q_not rfl) rfl fun a hA => ?_
   refine wpList_nil ?_
   refine hK39 _ _ ?_
   clear hK39
   refine cond_t hA rfl ?_
   refine wp_seq_k fun K40 hK40 => ?_
   refine wp_region_lit ?_
   refine asg hA fun a hA => ?_
   refine wpList_nil ?_
   refine hK40 _ _ ?_
   clear hK40
   refine wp_ret ?_
   refine block_ret ?_
   refine then_ret ?_
   refine then_ret ?_
   refine block_ret ?_
   refine then_ret ?_
   replace hH := HS.unfold [_] hNR4 hH
   refine post_ret hA (res_1 rfl hA rfl) ?_
   replace hH := hH.pick [] (Hs' := []) rfl
   exact ⟨_, rfl, rfl, hH⟩
 ·skip
  exact absurd hpc.right hC

set_option maxHeartbeats 1000000 in
theorem check_badB {w0 : World} (cs : List Int) (hcs : cs.length = 7) (hf : ¬ (0 ≤ cs.getD 0 0 ∧ cs.getD 0 0 ≤ 2)) :
    Calls Tryz.prog 19 #[(.agg ((cs).map I).toArray)] w0 (Ret fun r w' => r = I 1 ∧ HS [] w0 w' []) := by
 have hH := HS.start w0
 refine start (n := 43) (E := [(0, _)]) Tryz.func19 rfl rfl rfl (args_look rfl) ?_
 intro a hA
 refine wp_seq_k fun K1 hK1 => ?_
 refine wp_region_lit ?_
 refine sl hA (lo_boxA hH rfl) rfl ?_
 clear hH; rintro _ w ⟨b_t1, rfl, hH⟩ a hA
 refine asg hA fun a hA => ?_
 refine wpList_nil ?_
 refine hK1 _ _ ?_
 clear hK1
 replace hA := hA.s2 2 1
 refine wp_seq_k fun K2 hK2 => ?_
 refine wp_seq_k fun K3 hK3 => ?_
 refine wp_region_lit ?_
 refine sq hA (q_fld 0 Tryz.underlying23 rfl rfl ti3 rfl) rfl fun a hA => ?_
 refine sq hA (q_loadBm ((0 : Int)) hH 0 rfl Tryz.underlying3 rfl rfl (by first | omega | (simp; done) | (simp; omega) | (rw [List.length_map]; assumption) | assumption | rfl | (simp [*]; done) | (simp [*]; omega))) rfl fun a hA => ?_
 refine sq hA (q_buildV (vs := [I (cs.getD 0 0), I (0), I (2)]) (zs := [(I 0), (I 0), (I 0)]) (it := Tryz.t95) (ie := Tryz.t3) (by kernel_rfl) Tryz.underlying95 (by kernel_rfl) (by kernel_rfl) rfl rfl rfl (ones_cons rfl (ones_cons rfl (ones_cons rfl ones_nil)))) rfl fun a hA => ?_
 refine sq hA (q_fld 1 Tryz.underlying23 rfl rfl ti3 rfl) rfl fun a hA => ?_
 refine sq hA (q_loadBm ((0 : Int)) hH 0 rfl Tryz.underlying3 rfl rfl (by first | omega | (simp; done) | (simp; omega) | (rw [List.length_map]; assumption) | assumption | rfl | (simp [*]; done) | (simp [*]; omega))) rfl fun a hA => ?_
 refine sq hA (q_fld 0 Tryz.underlying23 rfl rfl ti3 rfl) rfl fun a hA => ?_
 refine sq hA (q_loadBm ((0 : Int)) hH 0 rfl Tryz.underlying3 rfl rfl (by first | omega | (simp; done) | (simp; omega) | (rw [List.length_map]; assumption) | assumption | rfl | (simp [*]; done) | (simp [*]; omega))) rfl fun a hA => ?_
 refine sq hA (q_mulW rfl rfl) rfl fun a hA => ?_
 refine sq hA (q_addW rfl rfl) rfl fun a hA => ?_
 refine sq hA (q_buildV (vs := [I (cs.getD 1 0), I (wrI (wrI (2 * cs.getD 0 0) + 1)), I (8)]) (zs := [(I 0), (I 0), (I 0)]) (it := Tryz.t95) (ie := Tryz.t3) (by kernel_rfl) Tryz.underlying95 (by kernel_rfl) (by kernel_rfl) rfl rfl rfl (ones_cons rfl (ones_cons rfl (ones_cons rfl ones_nil)))) rfl fun a hA => ?_
 refine sq hA (q_fld 2 Tryz.underlying23 rfl rfl ti3 rfl) rfl fun a hA => ?_
 refine sq hA (q_loadBm ((0 : Int)) hH 0 rfl Tryz.underlying3 rfl rfl (by first | omega | (simp; done) | (simp; omega) | (rw [List.length_map]; assumption) | assumption | rfl | (simp [*]; done) | (simp [*]; omega))) rfl fun a hA => ?_
 refine sq hA (q_buildV (vs := [I (cs.getD 2 0), I (0), I (6)]) (zs := [(I 0), (I 0), (I 0)]) (it := Tryz.t95) (ie := Tryz.t3) (by kernel_rfl) Tryz.underlying95 (by kernel_rfl) (by kernel_rfl) rfl rfl rfl (ones_cons rfl (ones_cons rfl (ones_cons rfl ones_nil)))) rfl fun a hA => ?_
 refine sq hA (q_fld 6 Tryz.underlying23 rfl rfl ti3 rfl) rfl fun a hA => ?_
 refine sq hA (q_loadBm ((0 : Int)) hH 0 rfl Tryz.underlying3 rfl rfl (by first | omega | (simp; done) | (simp; omega) | (rw [List.length_map]; assumption) | assumption | rfl | (simp [*]; done) | (simp [*]; omega))) rfl fun a hA => ?_
 refine sq hA (q_buildV (vs := [I (cs.getD 6 0), I (0), I (6)]) (zs := [(I 0), (I 0), (I 0)]) (it := Tryz.t95) (ie := Tryz.t3) (by kernel_rfl) Tryz.underlying95 (by kernel_rfl) (by kernel_rfl) rfl rfl rfl (ones_cons rfl (ones_cons rfl (ones_cons rfl ones_nil)))) rfl fun a hA => ?_
 refine sq hA (q_fld 3 Tryz.underlying23 rfl rfl ti3 rfl) rfl fun a hA => ?_
 refine sq hA (q_loadBm ((0 : Int)) hH 0 rfl Tryz.underlying3 rfl rfl (by first | omega | (simp; done) | (simp; omega) | (rw [List.length_map]; assumption) | assumption | rfl | (simp [*]; done) | (simp [*]; omega))) rfl fun a hA => ?_
 refine sq hA (q_buildV (vs := [I (cs.getD 3 0), I (1), I (256)]) (zs := [(I 0), (I 0), (I 0)]) (it := Tryz.t95) (ie := Tryz.t3) (by kernel_rfl) Tryz.underlying95 (by kernel_rfl) (by kernel_rfl) rfl rfl rfl (ones_cons rfl (ones_cons rfl (ones_cons rfl ones_nil)))) rfl fun a hA => ?_
 refine sq hA (q_fld 4 Tryz.underlying23 rfl rfl ti3 rfl) rfl fun a hA => ?_
 refine sq hA (q_loadBm ((0 : Int)) hH 0 rfl Tryz.underlying3 rfl rfl (by first | omega | (simp; done) | (simp; omega) | (rw [List.length_map]; assumption) | assumption | rfl | (simp [*]; done) | (simp [*]; omega))) rfl fun a hA => ?_
 refine sq hA (q_buildV (vs := [I (cs.getD 4 0), I (1), I (64)]) (zs := [(I 0), (I 0), (I 0)]) (it := Tryz.t95) (ie := Tryz.t3) (by kernel_rfl) Tryz.underlying95 (by kernel_rfl) (by kernel_rfl) rfl rfl rfl (ones_cons rfl (ones_cons rfl (ones_cons rfl ones_nil)))) rfl fun a hA => ?_
 refine sq hA (q_fld 5 Tryz.underlying23 rfl rfl ti3 rfl) rfl fun a hA => ?_
 refine sq hA (q_loadBm ((0 : Int)) hH 0 rfl Tryz.underlying3 rfl rfl (by first | omega | (simp; done) | (simp; omega) | (rw [List.length_map]; assumption) | assumption | rfl | (simp [*]; done) | (simp [*]; omega))) rfl fun a hA => ?_
 refine sq hA (q_buildV (vs := [I (cs.getD 5 0), I (1), I (10000)]) (zs := [(I 0), (I 0), (I 0)]) (it := Tryz.t95) (ie := Tryz.t3) (by kernel_rfl) Tryz.underlying95 (by kernel_rfl) (by kernel_rfl) rfl rfl rfl (ones_cons rfl (ones_cons rfl (ones_cons rfl ones_nil)))) rfl fun a hA => ?_
 refine sq hA (q_build (v := .agg (#[I (cs.getD 0 0), I (0), I (2), I (cs.getD 1 0), I (wrI (wrI (2 * cs.getD 0 0) + 1)), I (8), I (cs.getD 2 0), I (0), I (6), I (cs.getD 6 0), I (0), I (6), I (cs.getD 3 0), I (1), I (256), I (cs.getD 4 0), I (1), I (64), I (cs.getD 5 0), I (1), I (10000)] : Array Value)) (vs := [(0, .agg #[I (cs.getD 0 0), I (0), I (2)]), (1, .agg #[I (cs.getD 1 0), I (wrI (wrI (2 * cs.getD 0 0) + 1)), I (8)]), (2, .agg #[I (cs.getD 2 0), I (0), I (6)]), (3, .agg #[I (cs.getD 6 0), I (0), I (6)]), (4, .agg #[I (cs.getD 3 0), I (1), I (256)]), (5, .agg #[I (cs.getD 4 0), I (1), I (64)]), (6, .agg #[I (cs.getD 5 0), I (1), I (10000)])]) rfl (fun w => run_build w _ _ _ (by kernel_rfl))) rfl fun a hA => ?_
 refine mv hA fun a hA => ?_
 refine wpList_nil ?_
 refine hK3 _ _ ?_
 clear hK3
 replace hA := hA.s3 31 30 2
 refine wp_block ?_
 replace hH := HS.fold [] [_] hH
 obtain ⟨NR4, hNR4, hH⟩ := hH
 refine wp_loop_ghost (fun gm a w => At 43 [(31, I 0), (30, (.agg (#[I (cs.getD 0 0), I (0), I (2), I (cs.getD 1 0), I (wrI (wrI (2 * cs.getD 0 0) + 1)), I (8), I (cs.getD 2 0), I (0), I (6), I (cs.getD 6 0), I (0), I (6), I (cs.getD 3 0), I (1), I (256), I (cs.getD 4 0), I (1), I (64), I (cs.getD 5 0), I (1), I (10000)] : Array Value))), (2, (I 0))] a ∧ HS [] w0 w ([NR4]) ∧ gm = 0) (0) ⟨hA.sub ⟨rfl, rfl, rfl, trivial⟩, hH, rfl⟩ ?_
 clear hA hH
 rintro gm a w ⟨hA, hH, rfl⟩
 refine wp_seq_k fun K5 hK5 => ?_
 refine wp_region_lit ?_
 refine sq hA (q_lssI (n := 7) rfl rfl) rfl fun a hA => ?_
 skip
 ·skip
  replace hA := hA.decT (by decide)
  refine wpList_nil ?_
  refine hK5 _ _ ?_
  clear hK5
  refine wp_seq_k fun K6 hK6 => ?_
  refine cond_t hA rfl ?_
  refine wp_skip ?_
  refine hK6 _ _ ?_
  clear hK6
  refine wp_seq_k fun K7 hK7 => ?_
  refine wp_block ?_
  refine wp_seq_k fun K8 hK8 => ?_
  refine wp_region_lit ?_
  refine sq hA (q_indexAg Tryz.underlying102 ti95 Tryz.underlying95 rfl rfl rfl ⟨by decide, by decide⟩ [I (cs.getD 0 0), I (0), I (2)] rfl) rfl fun a hA => ?_
  refine sl hA (lo_allocA hH ti95) rfl ?_
  clear hH; rintro _ w ⟨b_t4, rfl, hH⟩ a hA
  refine s0 hA (lo_storeAm hH ti95 rfl rfl (by first | rfl) (by first | rfl) (ones_cons rfl (ones_cons rfl (ones_cons rfl ones_nil)))) ?_
  clear hH; rintro _ w hH
  refine wpList_nil ?_
  refine hK8 _ _ ?_
  clear hK8
  refine wp_seq_k fun K9 hK9 => ?_
  refine wp_region_lit ?_
  refine sq hA (q_idxA1 (0) Tryz.underlying95 ti3 rfl rfl (rfl) (by first | omega | (simp; done) | (simp; omega) | (rw [List.length_map]; assumption) | assumption | rfl | (simp [*]; done) | (simp [*]; omega))) rfl fun a hA => ?_
  refine sq hA (q_loadB hH 0 rfl (List.mem_singleton.2 rfl) Tryz.underlying3 rfl rfl rfl) rfl fun a hA => ?_
  refine sq hA (q_idxA1 (1) Tryz.underlying95 ti3 rfl rfl (rfl) (by first | omega | (simp; done) | (simp; omega) | (rw [List.length_map]; assumption) | assumption | rfl | (simp [*]; done) | (simp [*]; omega))) rfl fun a hA => ?_
  refine sq hA (q_loadB hH 0 rfl (List.mem_singleton.2 rfl) Tryz.underlying3 rfl rfl rfl) rfl fun a hA => ?_
  refine sq hA (q_idxA1 (2) Tryz.underlying95 ti3 rfl rfl (rfl) (by first | omega | (simp; done) | (simp; omega) | (rw [List.length_map]; assumption) | assumption | rfl | (simp [*]; done) | (simp [*]; omega))) rfl fun a hA => ?_
  refine sq hA (q_loadB hH 0 rfl (List.mem_singleton.2 rfl) Tryz.underlying3 rfl rfl rfl) rfl fun a hA => ?_
  refine sl hA (lo_call fn46 rfl (between_any _ _ _)) rfl ?_
  rintro _ w ⟨rfl, hC⟩ a hA
  replace hH := HS.call0 hH hC
  clear hC
  replace hA := hA.decF (by exact hf)
  refine sq hA (q_not rfl) rfl fun a hA => ?_
  refine wpList_nil ?_
  refine hK9 _ _ ?_
  clear hK9
  refine cond_t hA rfl ?_
  refine wp_seq_k fun K10 hK10 => ?_
  refine wp_region_lit ?_
  refine asg hA fun a hA => ?_
  refine wpList_nil ?_
  refine hK10 _ _ ?_
  clear hK10
  refine wp_ret ?_
  refine block_ret ?_
  refine then_ret ?_
  refine then_ret ?_
  refine block_ret ?_
  refine then_ret ?_
  replace hH := HS.unfold [_] hNR4 hH
  refine post_ret hA (res_1 rfl hA rfl) ?_
  replace hH := hH.pick [] (Hs' := []) rfl
  exact ⟨_, rfl, rfl, hH⟩

theorem check_bad {w0 : World} (cs : List Int) (hcs : cs.length = 7) (hC : ¬ RightC cs) : Calls Tryz.prog 19 #[(.agg ((cs).map I).toArray)] w0 (Ret fun r w' => r = I 1 ∧ HS [] w0 w' []) := by
  by_cases hf : 0 ≤ cs.getD 0 0 ∧ cs.getD 0 0 ≤ 2
  · exact check_badA cs hcs hC hf
  · exact check_badB cs hcs hf
theorem neww_bad {w0 : World} (cs : List Int) (hcs : cs.length = 7) (hC : ¬ RightC cs) (s : Bs) (hsd : s.length = 32) (key : Bs) (hkey : key.length = 32) :
    Calls Tryz.prog 7 #[(.agg ((cs).map I).toArray), (.agg ((s).map B8).toArray), (.agg ((key).map B8).toArray)] w0 (Ret fun r w' => r = .tuple #[.pointer none, I 1] ∧ HS [] w0 w' []) := by
 have hH := HS.start w0
 refine start (n := 33) (E := [(0, _), (1, _), (2, _)]) Tryz.func7 rfl rfl rfl (args_look rfl) ?_
 intro a hA
 refine wp_seq_k fun K1 hK1 => ?_
 refine wp_region_lit ?_
 refine sl hA (lo_boxA hH rfl) rfl ?_
 clear hH; rintro _ w ⟨b_t3, rfl, hH⟩ a hA
 refine sl hA (lo_boxA hH rfl) rfl ?_
 clear hH; rintro _ w ⟨b_t4, rfl, hH⟩ a hA
 refine sl hA (lo_boxA hH rfl) rfl ?_
 clear hH; rintro _ w ⟨b_t5, rfl, hH⟩ a hA
 refine asg hA fun a hA => ?_
 refine asg hA fun a hA => ?_
 refine wpList_nil ?_
 refine hK1 _ _ ?_
 clear hK1
 replace hA := hA.s5 7 6 5 4 3
 refine wp_seq_k fun K2 hK2 => ?_
 refine wp_seq_k fun K3 hK3 => ?_
 refine wp_region_lit ?_
 refine sq hA (q_loadW hH 2 rfl Tryz.underlying23 rfl ti23 rfl (by first | omega | (simp; done) | (simp; omega) | (rw [List.length_map]; assumption) | assumption | rfl | (simp [*]; done) | (simp [*]; omega))) rfl fun a hA => ?_
 refine sl hA (lo_call fn19 rfl (check_bad _ hcs hC)) rfl ?_
 rintro _ w ⟨rfl, hC⟩ a hA
 replace hH := HS.call0 hH hC
 clear hC
 refine asg hA fun a hA => ?_
 refine wpList_nil ?_
 refine hK3 _ _ ?_
 clear hK3
 replace hA := hA.s6 8 7 6 5 4 3
 refine wp_seq_k fun K4 hK4 => ?_
 refine wp_region_lit ?_
 refine mv hA fun a hA => ?_
 refine sq hA (q_neqI (n := 0) rfl rfl) rfl fun a hA => ?_
 refine wpList_nil ?_
 refine hK4 _ _ ?_
 clear hK4
 replace hA := hA.s7 14 8 7 6 5 4 3
 refine cond_d hA rfl (fun _ => ?_) (fun hnn => absurd ((by decide)) hnn)
 refine wp_seq_k fun K5 hK5 => ?_
 refine wp_region_lit ?_
 refine mv hA fun a hA => ?_
 refine asg hA fun a hA => ?_
 refine asg hA fun a hA => ?_
 refine wpList_nil ?_
 refine hK5 _ _ ?_
 clear hK5
 replace hA := hA.s5 7 6 5 4 3
 refine wp_ret ?_
 refine then_ret ?_
 refine post_ret hA (res_2 rfl hA rfl rfl) ?_
 replace hH := hH.pick [] (Hs' := []) rfl
 exact ⟨_, rfl, rfl, hH⟩

end Go.Proofs.YtnnkgdijaekcfaaGreatDoor
