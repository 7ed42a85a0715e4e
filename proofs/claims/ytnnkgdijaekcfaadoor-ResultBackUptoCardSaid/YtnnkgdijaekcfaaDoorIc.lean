/- Layer 20 (result): awake; results copied, compared. -/
import Derived.Test.YtnnkgdijaekcfaaDoorIb
import Derived.Test.YtnnkgdijaekcfaaDoorHe
namespace Go.Proofs.YtnnkgdijaekcfaaDoor
open Go
set_option linter.unusedVariables false
set_option linter.unusedSimpArgs false
set_option maxRecDepth 100000

theorem own20_any {w0 : World} (v : Value) (l : Bs) (hr : By [] w0 v l) (hl : l.length ≤ 1048576) :
    Calls Tryd.prog 18 #[v] w0 (Ret fun r w' => ∃ v' N, v' = r ∧ Ow B8 5 v' l N ∧ HS [] w0 w' [N]) := by
 have hH := HS.start w0
 refine start (n := 6) (E := [(0, _)]) Tryd.func18 rfl rfl rfl (args_look rfl) ?_
 intro a hA
 refine wp_seq_k fun K1 hK1 => ?_
 refine wp_region_lit ?_
 refine asg hA fun a hA => ?_
 refine wpList_nil ?_
 refine hK1 _ _ ?_
 clear hK1
 refine wp_seq_k fun K2 hK2 => ?_
 refine wp_region_lit ?_
 refine sl hA (lo_bs (f := B8) (e := 5) ([]) hH rfl rfl (fun w => by kernel_rfl)) rfl ?_
 clear hH; rintro v_t3 w ⟨N_t3, hO_t3, hH⟩ a hA
 refine mv hA fun a hA => ?_
 refine sl hA (lo_appm hH Tryd.underlying22 Tryd.underlying22 (.inl rfl) ti5 rfl rfl rfl hO_t3 (Rd.src (hH.rd hr)) (one_B8 _) (by first | omega | (simp; done) | (simp; omega)) (by first | omega | (simp; done) | (simp; omega))) rfl ?_
 clear hH; rintro v_t5 w ⟨N_t5, hO_t5, hH⟩ a hA
 refine asg hA fun a hA => ?_
 refine wpList_nil ?_
 refine hK2 _ _ ?_
 clear hK2
 replace hA := hA.s1 2
 refine wp_ret ?_
 refine post_ret hA (res_1 rfl hA rfl) ?_
 exact ⟨_, rfl, v_t5, N_t5, rfl, hO_t5, hH⟩

theorem glaw20_any {w0 : World} (n h : Int) :
    Calls Tryd.prog 23 #[I n, I h] w0 (Ret fun r w' => r = .bool (decide (G7 n h)) ∧ HS [] w0 w' []) := by
 have hH := HS.start w0
 refine start (n := 19) (E := [(0, _), (1, _)]) Tryd.func23 rfl rfl rfl (args_look rfl) ?_
 intro a hA
 refine wp_seq_k fun K1 hK1 => ?_
 refine wp_region_lit ?_
 refine asg hA fun a hA => ?_
 refine wpList_nil ?_
 refine hK1 _ _ ?_
 clear hK1
 refine wp_seq_k fun K2 hK2 => ?_
 refine wp_region_lit ?_
 refine mv hA fun a hA => ?_
 refine sq hA (q_gtrI (n := 24) rfl rfl) rfl fun a hA => ?_
 refine hA.spl (fun hs6 hA => ?_) (fun hs6 hA => ?_)
 ·skip
  refine mv hA fun a hA => ?_
  refine gq hA rfl rfl (q_move rfl) rfl fun a hA => ?_
  refine gq hA rfl rfl (q_leqI (n := 256) rfl rfl) rfl fun a hA => ?_
  refine sq hA (q_pick_t rfl rfl) rfl fun a hA => ?_
  refine hA.spl (fun hs10 hA => ?_) (fun hs10 hA => ?_)
  ·skip
   refine mv hA fun a hA => ?_
   refine gs hA rfl rfl rfl rfl fun a hA => ?_
   refine gs hA rfl rfl rfl rfl fun a hA => ?_
   refine gsU hA rfl rfl rfl rfl fun a hA => ?_
   refine gs0U hA rfl rfl rfl fun a hA => ?_
   refine gs0U hA rfl rfl rfl fun a hA => ?_
   refine gs hA rfl rfl rfl rfl fun a hA => ?_
   refine sq hA (q_pick_t rfl rfl) rfl fun a hA => ?_
   refine asg hA fun a hA => ?_
   refine wpList_nil ?_
   refine hK2 _ _ ?_
   clear hK2
   replace hA := hA.s1 4
   refine wp_ret ?_
   refine post_ret hA (res_1 rfl hA rfl) ?_
   exact ⟨_, rfl, by congr 1; symm; first | exact decide_eq_false (by unfold G7; omega) | exact decide_eq_true (by unfold G7; omega) | exact decide_eq_decide.2 (by unfold G7; omega), hH⟩
  ·skip
   refine mv hA fun a hA => ?_
   refine gq hA rfl rfl (q_move rfl) rfl fun a hA => ?_
   refine gq hA rfl rfl (q_gtrI (n := 3) rfl rfl) rfl fun a hA => ?_
   refine hA.spl (fun hs13 hA => ?_) (fun hs13 hA => ?_)
   ·skip
    refine gq hA rfl rfl (q_move rfl) rfl fun a hA => ?_
    refine gq hA rfl rfl (q_move rfl) rfl fun a hA => ?_
    refine gq hA rfl rfl (q_leqI (n := 6) rfl rfl) rfl fun a hA => ?_
    refine gq hA rfl rfl (q_pick_t rfl rfl) rfl fun a hA => ?_
    refine sq hA (q_pick_f rfl rfl) rfl fun a hA => ?_
    refine asg hA fun a hA => ?_
    refine wpList_nil ?_
    refine hK2 _ _ ?_
    clear hK2
    replace hA := hA.s1 4
    refine wp_ret ?_
    refine post_ret hA (res_1 rfl hA rfl) ?_
    exact ⟨_, rfl, by congr 1; symm; first | exact decide_eq_false (by unfold G7; omega) | exact decide_eq_true (by unfold G7; omega) | exact decide_eq_decide.2 (by unfold G7; omega), hH⟩
   ·skip
    refine gq hA rfl rfl (q_move rfl) rfl fun a hA => ?_
    refine gs hA rfl rfl rfl rfl fun a hA => ?_
    refine gs hA rfl rfl rfl rfl fun a hA => ?_
    refine gq hA rfl rfl (q_pick_f rfl rfl) rfl fun a hA => ?_
    refine sq hA (q_pick_f rfl rfl) rfl fun a hA => ?_
    refine asg hA fun a hA => ?_
    refine wpList_nil ?_
    refine hK2 _ _ ?_
    clear hK2
    replace hA := hA.s1 4
    refine wp_ret ?_
    refine post_ret hA (res_1 rfl hA rfl) ?_
    exact ⟨_, rfl, by congr 1; symm; first | exact decide_eq_false (by unfold G7; omega) | exact decide_eq_true (by unfold G7; omega) | exact decide_eq_decide.2 (by unfold G7; omega), hH⟩
 ·skip
  refine mv hA fun a hA => ?_
  refine gs hA rfl rfl rfl rfl fun a hA => ?_
  refine gs hA rfl rfl rfl rfl fun a hA => ?_
  refine sq hA (q_pick_f rfl rfl) rfl fun a hA => ?_
  refine mv hA fun a hA => ?_
  refine gq hA rfl rfl (q_move rfl) rfl fun a hA => ?_
  refine gq hA rfl rfl (q_gtrI (n := 3) rfl rfl) rfl fun a hA => ?_
  refine hA.spl (fun hs13 hA => ?_) (fun hs13 hA => ?_)
  ·skip
   refine gq hA rfl rfl (q_move rfl) rfl fun a hA => ?_
   refine gq hA rfl rfl (q_move rfl) rfl fun a hA => ?_
   refine gq hA rfl rfl (q_leqI (n := 6) rfl rfl) rfl fun a hA => ?_
   refine gq hA rfl rfl (q_pick_t rfl rfl) rfl fun a hA => ?_
   refine sq hA (q_pick_f rfl rfl) rfl fun a hA => ?_
   refine asg hA fun a hA => ?_
   refine wpList_nil ?_
   refine hK2 _ _ ?_
   clear hK2
   replace hA := hA.s1 4
   refine wp_ret ?_
   refine post_ret hA (res_1 rfl hA rfl) ?_
   exact ⟨_, rfl, by congr 1; symm; first | exact decide_eq_false (by unfold G7; omega) | exact decide_eq_true (by unfold G7; omega) | exact decide_eq_decide.2 (by unfold G7; omega), hH⟩
  ·skip
   refine gq hA rfl rfl (q_move rfl) rfl fun a hA => ?_
   refine gs hA rfl rfl rfl rfl fun a hA => ?_
   refine gs hA rfl rfl rfl rfl fun a hA => ?_
   refine gq hA rfl rfl (q_pick_f rfl rfl) rfl fun a hA => ?_
   refine sq hA (q_pick_f rfl rfl) rfl fun a hA => ?_
   refine asg hA fun a hA => ?_
   refine wpList_nil ?_
   refine hK2 _ _ ?_
   clear hK2
   replace hA := hA.s1 4
   refine wp_ret ?_
   refine post_ret hA (res_1 rfl hA rfl) ?_
   exact ⟨_, rfl, by congr 1; symm; first | exact decide_eq_false (by unfold G7; omega) | exact decide_eq_true (by unfold G7; omega) | exact decide_eq_decide.2 (by unfold G7; omega), hH⟩

set_option maxHeartbeats 1000000 in
theorem awake20_any {w0 : World} {lv : Nat} (hg : Gl lv w0)  :
    Calls Tryd.prog 15 #[] w0 (Ret fun r w' => r = .bool true ∧ HS [] w0 w' []) := by
 have hH := HS.start w0
 refine start (n := 49) (E := []) Tryd.func15 rfl rfl rfl (args_look rfl) ?_
 intro a hA
 obtain ⟨z, hz⟩ : ∃ z, z = (List.replicate 32 0#8) := ⟨_, rfl⟩
 have hsd : z.length = 32 := by rw [hz]; simp
 have hn : R7 ((2 : Nat) : Int) ((0 : Nat) : Int) := by unfold R7 R5; omega
 have hPl := pubK_length z 2 0
 obtain ⟨y, hy⟩ : ∃ y, y = (3#8 :: List.replicate 31 0#8) := ⟨_, rfl⟩
 have hyl : y.length = 32 := by rw [hy]; simp
 have hxl := txV_len (j := (max 1 0 : Int).toNat) (a := (max 2 0 : Int).toNat) (v := [118#8]) (nonce := y) (by decide) (by decide) (by decide) hyl
 rw [show List.length [118#8] = 1 from rfl] at hxl
 refine wp_seq_k fun K1 hK1 => ?_
 refine wp_region_lit ?_
 refine asg hA fun a hA => ?_
 refine wpList_nil ?_
 refine hK1 _ _ ?_
 clear hK1
 refine wp_seq_k fun K2 hK2 => ?_
 refine wp_region_lit ?_
 refine sq hA (q_build (v := (.agg ((List.replicate 32 0#8).map B8).toArray)) (vs := []) rfl (fun w => by kernel_rfl)) rfl fun a hA => ?_
 rw [show ((.agg ((List.replicate 32 0#8).map B8).toArray) : Value) = (.agg ((z).map B8).toArray) from by rw [hz]] at hA
 refine sl hA (lo_call fn27 rfl (new7_any (hg.mono0 hH) z hsd 2 0 hn)) rfl ?_
 rintro _ w ⟨b_k, b_s, v_l, N_l, rfl, hO_l, hC⟩ a hA
 replace hH := HS.call0 hH hC
 clear hC
 have hshp : Shp v_l (2 ^ (0)) := by have := Own.shp hO_l; rwa [leavesK_length] at this
 refine mv hA fun a hA => ?_
 refine sq hA (q_extract rfl rfl) rfl fun a hA => ?_
 refine sq hA (q_extract rfl rfl) rfl fun a hA => ?_
 refine asg hA fun a hA => ?_
 refine asg hA fun a hA => ?_
 refine wpList_nil ?_
 refine hK2 _ _ ?_
 clear hK2
 replace hA := hA.s3 2 1 0
 refine wp_seq_k fun K3 hK3 => ?_
 refine wp_region_lit ?_
 refine mv hA fun a hA => ?_
 refine sl hA (lo_bs (f := B8) (e := 5) ([118#8]) hH rfl rfl (fun w => by kernel_rfl)) rfl ?_
 clear hH; rintro v_t13 w ⟨N_t13, hO_t13, hH⟩ a hA
 refine sq hA (q_build (v := .agg (((3#8 :: List.replicate 31 0#8) : List _).map B8).toArray) rfl (fun w => by kernel_rfl)) rfl fun a hA => ?_
 rw [← hy] at hA
 refine sl hA (lo_call fn17 rfl (text20_any _ _ (by first | exact hts9 _ | assumption | omega | decide) (by first | exact hts9 _ | assumption | omega | decide) _ _ (Own.rd0 hO_t13 hH 0 rfl) (by first | omega | (simp; done) | (simp; omega)) _ (by first | assumption | (rw [List.length_map]; assumption) | rfl | exact sha_length _ | (simp; done) | (simp [*]; done) | omega))) rfl ?_
 rintro _ w ⟨v_t15, N_t15, rfl, hO_t15, hC⟩ a hA
 replace hH := HS.call0 hH hC
 clear hC
 replace hH := hH.pick [2, 0, 1, 3, 4] (Hs' := [_, _, _, _, _]) rfl
 refine sl hA (lo_call fn29 rfl (sign7_any (hg.mono0 hH) b_k b_s (hg.ng NG.nil hH) z hsd 2 0 hn v_l (HS.boxDM (Ns1 := [_]) hH 2 rfl hsd) (Own.rdM hO_l (Ns1 := [_]) hH 3 rfl) 0 (by decide) _ (txV (max (1 : Int) 0).toNat (max (2 : Int) 0).toNat [118#8] y) (Own.rdM hO_t15 (Ns1 := [_]) hH 0 rfl) (by first | omega | (simp; done) | (simp; omega)) (HS.handed (Ns1 := [_]) hH))) rfl ?_
 rintro _ w ⟨v_ot16, v_pt16, N_ot16, N_pt16, rfl, hOo_t16, hOp_t16, hC⟩ a hA
 replace hH := HS.call (Ns1 := [_]) hH hC
 clear hC
 have hdo_t16 := otsK_dg z 2 0 (txV (max (1 : Int) 0).toNat (max (2 : Int) 0).toNat [118#8] y)
 have hdp_t16 := pthK_dg z 2 (show 0 < 2 ^ 0 by first | assumption | omega | simp)
 have hlo_t16 := otsK_length z 2 0 (txV (max (1 : Int) 0).toNat (max (2 : Int) 0).toNat [118#8] y)
 have hlp_t16 := pthK_length z 2 0 0
 have hel := encK_len (i := ((0 : Nat) : Int)) (by decide) hdo_t16 hdp_t16
 have heg := encK_ge (i := ((0 : Nat) : Int)) (B := pthK z 2 0 0) hdo_t16
 refine mv hA fun a hA => ?_
 refine sq hA (q_extract rfl rfl) rfl fun a hA => ?_
 refine sq hA (q_extract rfl rfl) rfl fun a hA => ?_
 refine sl hA (lo_allocA hH ti27) rfl ?_
 clear hH; rintro _ w ⟨b_t3, rfl, hH⟩ a hA
 refine s0 hA (lo_storeAm hH ti27 rfl rfl (rfl) (rfl) (ones_cons rfl (ones_cons (Own.one hOo_t16) (ones_cons (Own.one hOp_t16) ones_nil)))) ?_
 clear hH; rintro _ w hH
 refine asg hA fun a hA => ?_
 refine wpList_nil ?_
 refine hK3 _ _ ?_
 clear hK3
 replace hA := hA.s5 4 3 2 1 0
 refine wp_seq_k fun K4 hK4 => ?_
 refine wp_region_lit ?_
 refine sl hA (lo_bs (f := B8) (e := 5) ([118#8]) hH rfl rfl (fun w => by kernel_rfl)) rfl ?_
 clear hH; rintro v_t19 w ⟨N_t19, hO_t19, hH⟩ a hA
 refine sq hA (q_loadW hH 1 rfl Tryd.underlying27 rfl ti27 rfl (by first | omega | (simp; done) | (simp; omega) | (rw [List.length_map]; assumption) | assumption | rfl | (simp [*]; done) | (simp [*]; omega))) rfl fun a hA => ?_
 refine sq hA (q_buildC (css := [[v_t19], _]) (z := [(.slice none 0 0), (.slice none 0 0), (I 0), (.slice none 0 0), (.slice none 0 0)]) (BT.mk (pl := [(0, 1), (1, 1), (2, 3)]) (it := Tryd.t29) (by kernel_rfl) Tryd.underlying29 (by kernel_rfl) (by kernel_rfl)) rfl ⟨cells_one (Own.one hO_t19), ⟨_, rfl, by first | rfl | (simp [Value.cells]; done) | (simp [Value.cells, *]; done), by decide⟩, rfl, ⟨_, rfl, by first | rfl | (simp [Value.cells]; done) | (simp [Value.cells, *]; done), by decide⟩, trivial⟩) rfl fun a hA => ?_
 refine sl hA (lo_allocA hH ti29) rfl ?_
 clear hH; rintro _ w ⟨b_t5, rfl, hH⟩ a hA
 refine s0 hA (lo_storeAm hH ti29 rfl rfl (rfl) (rfl) (ones_cons rfl (ones_cons (Own.one hO_t19) (ones_cons rfl (ones_cons (Own.one hOo_t16) (ones_cons (Own.one hOp_t16) ones_nil)))))) ?_
 clear hH; rintro _ w hH
 refine wpList_nil ?_
 refine hK4 _ _ ?_
 clear hK4
 replace hA := hA.s6 5 4 3 2 1 0
 refine wp_seq_k fun K5 hK5 => ?_
 refine any_go mixed (fun _ => true) hH ?_
 clear hH; intro w hH
 have hS := hH
 refine any_l 28 ?_
 refine p0 hA 0 1 rfl (fun w => (q_move rfl)) fun a hA => ?_
 refine p0 hA 1 3 rfl (fun w => (q_eqlI (n := 0) rfl rfl)) fun a hA => ?_
 replace hA := hA.decT (by first | rfl | omega | assumption | (simp; done) | (simp [*]; done))
 refine p0 hA 2 7 rfl (fun w => (q_move rfl)) fun a hA => ?_
 refine pg hA 3 15 rfl rfl rfl (fun w => (q_move rfl)) fun a hA => ?_
 refine pg hA 4 31 rfl rfl rfl (fun w => (q_eqlI (n := 0) rfl rfl)) fun a hA => ?_
 refine p0 hA 5 63 rfl (fun w => (q_pick_t rfl rfl)) fun a hA => ?_
 replace hA := hA.decT (by first | rfl | omega | assumption | (simp; done) | (simp [*]; done))
 refine p0 hA 6 127 rfl (fun w => (q_move rfl)) fun a hA => ?_
 refine pg hA 7 255 rfl rfl rfl (fun w => (q_fld 1 Tryd.underlying27 rfl rfl ti25 rfl)) fun a hA => ?_
 refine rg hA 8 511 rfl rfl rfl hS (fun w hH => (q_loadB hH 2 rfl (List.mem_singleton.2 rfl) Tryd.underlying25 rfl rfl rfl)) fun a hA => ?_
 refine pg hA 9 1023 rfl rfl rfl (fun w => (q_len Tryd.underlying25 rfl (Own.shp hOo_t16))) fun a hA => ?_
 refine pg hA 10 2047 rfl rfl rfl (fun w => (q_eqlI (n := 4) rfl rfl)) fun a hA => ?_
 refine p0 hA 11 4095 rfl (fun w => (q_pick_t rfl rfl)) fun a hA => ?_
 replace hA := hA.decT (by omega)
 refine p0 hA 12 8191 rfl (fun w => (q_move rfl)) fun a hA => ?_
 refine rg hA 13 16383 rfl rfl rfl hS (fun w hH => (q_loadW hH 0 rfl Tryd.underlying29 rfl ti29 rfl (by first | omega | (simp; done) | (simp; omega) | (rw [List.length_map]; assumption) | assumption | rfl | (simp [*]; done) | (simp [*]; omega)))) fun a hA => ?_
 refine pg hA 14 32767 rfl rfl rfl (fun w => (q_build (v := .agg (([1, 2, 0, 0, 0, 0] : List Int).map I).toArray) (vs := [(0, I 1), (1, I 2)]) rfl (fun w => run_build w _ _ _ (by kernel_rfl)))) fun a hA => ?_
 refine pg hA 15 65535 rfl rfl rfl (fun w => (q_build (v := .agg (((3#8 :: List.replicate 31 0#8) : List _).map B8).toArray) rfl (fun w => by kernel_rfl))) fun a hA => ?_
 rw [← hy] at hA
 refine pg hA 16 131071 rfl rfl rfl (fun w => (q_move rfl)) fun a hA => ?_
 replace hH := hH.pick [3, 0, 1, 2, 4, 5, 6, 7, 8, 9] (Hs' := [_, _, _, _, _, _, _, _, _, _]) rfl
 refine g1 hA 17 262143 rfl rfl rfl (lo_call fn30 rfl (public7_any _ _ _ _ hPl _ _ _ hshp (by first | exact Nat.zero_le _ | omega | decide) (by first | assumption | omega | decide) (HS.handed (Ns1 := [_]) hH))) ?_
 rintro _ w ⟨rfl, hC⟩
 replace hH := HS.call (Ns1 := [_]) hH hC
 clear hC
 replace hS := hH.pick [1, 2, 3, 0, 4, 5, 6, 7, 8, 9] (Hs' := [_, _, _, _, _, _, _, _, _, _]) rfl
 refine ⟨fun _ _ => hS, ?_⟩
 intro a hA
 refine g1 hA 18 524287 rfl rfl rfl (lo_call fn24 rfl (check20_any (hg.mono0 hH) _ _ _ _ By.nilV (Own.rd0 hO_t19 hH 2 rfl) (by first | omega | (simp; done) | (simp; omega)) (by first | omega | (simp; done) | (simp; omega)) _ _ _ _ _ (by first | assumption | exact Dg.nil) (by first | assumption | exact Dg.nil) (Own.rd0 hOo_t16 hH 4 rfl) (Own.rd0 hOp_t16 hH 5 rfl) (by first | omega | (simp; done) | (simp; omega)) (by first | omega | (simp; done) | (simp; omega)) (by omega) (by omega) (by omega) _ (by first | assumption | rfl) (by first | assumption | exact ts9_of (by decide)) _ (by first | assumption | (rw [List.length_map]; assumption) | rfl | exact sha_length _ | (simp; done) | (simp [*]; done) | omega) _ (by first | assumption | (rw [List.length_map]; assumption) | rfl | exact sha_length _ | (simp; done) | (simp [*]; done) | omega) _ _ (by first | omega | decide))) ?_
 rintro _ w ⟨rfl, hC⟩
 replace hH := HS.call0 hH hC
 clear hC
 replace hS := hH.pick [1, 2, 3, 0, 4, 5, 6, 7, 8, 9] (Hs' := [_, _, _, _, _, _, _, _, _, _]) rfl
 refine ⟨fun _ _ => hS, ?_⟩
 intro a hA
 refine pg hA 19 1048575 rfl rfl rfl (fun w => (q_eqlI (n := 0) rfl rfl)) fun a hA => ?_
 refine p0 hA 20 2097151 rfl (fun w => (q_pick_t rfl rfl)) fun a hA => ?_
 replace hA := hA.decT (by exact congrArg (fun x : Nat => (x : Int)) (chkR_o (by decide) ⟨rfl, sig_right z _ hn (by decide)⟩))
 refine p0 hA 21 4194303 rfl (fun w => (q_move rfl)) fun a hA => ?_
 refine rg hA 22 8388607 rfl rfl rfl hS (fun w hH => (q_loadW hH 0 rfl Tryd.underlying29 rfl ti29 rfl (by first | omega | (simp; done) | (simp; omega) | (rw [List.length_map]; assumption) | assumption | rfl | (simp [*]; done) | (simp [*]; omega)))) fun a hA => ?_
 refine g1 hA 23 16777215 rfl rfl rfl (lo_call fn20 rfl (enc20_any _ _ _ _ By.nilV (Own.rd0 hO_t19 hH 2 rfl) (by first | omega | (simp; done) | (simp; omega)) (by first | omega | (simp; done) | (simp; omega)) _ _ _ _ _ (by first | assumption | exact Dg.nil) (by first | assumption | exact Dg.nil) (Own.rd0 hOo_t16 hH 4 rfl) (Own.rd0 hOp_t16 hH 5 rfl) (by first | omega | (simp; done) | (simp; omega)) (by first | omega | (simp; done) | (simp; omega)) (by omega) (by omega) (by omega))) ?_
 rintro _ w ⟨v_t45, N_t45, rfl, hO_t45, hC⟩
 replace hH := HS.call0 hH hC
 clear hC
 replace hS := hH.pick [2, 3, 4, 1, 5, 6, 7, 8, 9, 10] (Hs' := [_, _, _, _, _, _, _, _, _, _]) rfl
 refine ⟨fun _ _ => hS, ?_⟩
 intro a hA
 refine pg hA 24 33554431 rfl rfl rfl (fun w => (q_len Tryd.underlying22 rfl (Own.shp hO_t45))) fun a hA => ?_
 refine pg hA 25 67108863 rfl rfl rfl (fun w => (q_gtrI (n := 130) rfl rfl)) fun a hA => ?_
 refine p0 hA 26 134217727 rfl (fun w => (q_pick_t rfl rfl)) fun a hA => ?_
 refine p0 hA 27 268435455 rfl (fun w => (q_assign rfl)) fun a hA => ?_
 refine a_end (by kernel_rfl) ?_ _
 refine hK5 _ _ ?_
 clear hK5
 replace hA := hA.s1 0
 refine wp_ret ?_
 refine post_ret hA (res_1 rfl hA rfl) ?_
 replace hH := hH.pick [] (Hs' := []) rfl
 have hge := encR_ge [] [118#8] (encK ((0 : Nat) : Int) (otsK z 2 0 (txV (max (1 : Int) 0).toNat (max (2 : Int) 0).toNat [118#8] y)) (pthK z 2 0 0))
 simp only [List.length_nil, List.length_cons] at hge
 exact ⟨_, rfl, congrArg Value.bool (decide_eq_true (by omega)), hH⟩

theorem copy20_any {w0 : World} (tv vv : Value) (T V : Bs) (htv : By [] w0 tv T) (hvv : By [] w0 vv V) (hlT : T.length ≤ 1048576) (hlV : V.length ≤ 1048576) (ix : Int) (ua xa : Value) (A B : List Bs) (hdA : Dg A) (hdB : Dg B) (hua : RdD [] w0 ua A) (hxa : RdD [] w0 xa B) (hlA : A.length ≤ 1048576) (hlB : B.length ≤ 1048576) :
    Calls Tryd.prog 21 #[(.agg #[tv, vv, I ix, ua, xa])] w0 (Ret fun r w' => ∃ a b u' x' N0 N1 N2 N3, r = .agg #[a, b, I ix, u', x'] ∧ Ow B8 5 a T N0 ∧ Ow B8 5 b V N1 ∧ OwD 24 u' A N2 ∧ OwD 24 x' B N3 ∧ HS [] w0 w' [N0, N1, N2, N3]) := by
 have hH := HS.start w0
 refine start (n := 15) (E := [(0, _)]) Tryd.func21 rfl rfl rfl (args_look rfl) ?_
 intro a hA
 refine wp_seq_k fun K1 hK1 => ?_
 refine wp_region_lit ?_
 refine sl hA (lo_boxA hH rfl) rfl ?_
 clear hH; rintro _ w ⟨b_t1, rfl, hH⟩ a hA
 refine sl hA (lo_allocA hH ti29) rfl ?_
 clear hH; rintro _ w ⟨b_t2, rfl, hH⟩ a hA
 refine wpList_nil ?_
 refine hK1 _ _ ?_
 clear hK1
 replace hA := hA.s2 2 1
 refine wp_seq_k fun K2 hK2 => ?_
 refine any_go mixed (fun j => !(Nat.beq j 12)) hH ?_
 clear hH; intro w hH
 have hS := hH
 refine any_l 13 ?_
 refine p0 hA 1 2 rfl (fun w => (q_fld 0 Tryd.underlying29 rfl rfl ti22 rfl)) fun a hA => ?_
 refine r0 hA 2 6 rfl hS (fun w hH => (q_loadB hH 1 rfl (List.mem_singleton.2 rfl) Tryd.underlying22 rfl rfl rfl)) fun a hA => ?_
 refine p0 hA 5 38 rfl (fun w => (q_fld 1 Tryd.underlying29 rfl rfl ti22 rfl)) fun a hA => ?_
 refine r0 hA 6 102 rfl hS (fun w hH => (q_loadB hH 1 rfl (List.mem_singleton.2 rfl) Tryd.underlying22 rfl rfl rfl)) fun a hA => ?_
 refine p0 hA 8 358 rfl (fun w => (q_fld 2 Tryd.underlying29 rfl rfl ti27 rfl)) fun a hA => ?_
 refine r0 hA 9 870 rfl hS (fun w hH => (q_loadBA hH 1 rfl (List.mem_singleton.2 rfl) Tryd.underlying27 rfl ti27 rfl [_, _, _] rfl rfl)) fun a hA => ?_
 refine a_ch2 (i := 0) (j := 4) (by kernel_rfl) ?_ ?_
 ·skip
  refine o1 hA 0 871 rfl (lo_bs (f := B8) (e := 5) ([]) hH rfl rfl (fun w => by kernel_rfl)) ?_
  clear hH; rintro v_t3 w ⟨N_t3, hO_t3, hH⟩
  replace hS := hH.pick [1, 2] (Hs' := [_, _]) rfl
  refine ⟨fun _ _ => hS, ?_⟩
  intro a hA
  refine a_ch2 (i := 3) (j := 4) (by kernel_rfl) ?_ ?_
  ·skip
   refine o1 hA 3 879 rfl (lo_appm hH Tryd.underlying22 Tryd.underlying22 (.inl rfl) ti5 rfl rfl rfl hO_t3 (Rd.src (hH.rd htv)) (one_B8 _) (by first | omega | (simp; done) | (simp; omega)) (by first | omega | (simp; done) | (simp; omega))) ?_
   clear hH; rintro v_t6 w ⟨N_t6, hO_t6, hH⟩
   replace hS := hH.pick [1, 2] (Hs' := [_, _]) rfl
   refine ⟨fun _ _ => hS, ?_⟩
   intro a hA
   refine a1 hA 4 895 rfl (lo_bs (f := B8) (e := 5) ([]) hH rfl rfl (fun w => by kernel_rfl)) ?_
   clear hH; rintro v_t7 w ⟨N_t7, hO_t7, hH⟩
   replace hS := hH.pick [2, 3] (Hs' := [_, _]) rfl
   refine ⟨fun _ _ => hS, ?_⟩
   intro a hA
   refine a1 hA 7 1023 rfl (lo_appm hH Tryd.underlying22 Tryd.underlying22 (.inl rfl) ti5 rfl rfl rfl hO_t7 (Rd.src (hH.rd hvv)) (one_B8 _) (by first | omega | (simp; done) | (simp; omega)) (by first | omega | (simp; done) | (simp; omega))) ?_
   clear hH; rintro v_t10 w ⟨N_t10, hO_t10, hH⟩
   replace hS := hH.pick [2, 3] (Hs' := [_, _]) rfl
   refine ⟨fun _ _ => hS, ?_⟩
   intro a hA
   refine a1 hA 10 2047 rfl (lo_call fn59 rfl (copy7_any _ _ _ _ _ (by first | assumption | exact Dg.nil) (by first | assumption | exact Dg.nil) (hH.rd hua) (hH.rd hxa) (by first | omega | (simp; done) | (simp; omega)) (by first | omega | (simp; done) | (simp; omega)))) ?_
   rintro _ w ⟨v_ot13, v_pt13, N_ot13, N_pt13, rfl, hOo_t13, hOp_t13, hC⟩
   replace hH := HS.call0 hH hC
   clear hC
   replace hS := hH.pick [4, 5] (Hs' := [_, _]) rfl
   refine ⟨fun _ _ => hS, ?_⟩
   intro a hA
   refine p0 hA 11 4095 rfl (fun w => (q_buildC (css := [[v_t6], [v_t10], _]) (z := [(.slice none 0 0), (.slice none 0 0), (I 0), (.slice none 0 0), (.slice none 0 0)]) (BT.mk (pl := [(0, 1), (1, 1), (2, 3)]) (it := Tryd.t29) (by kernel_rfl) Tryd.underlying29 (by kernel_rfl) (by kernel_rfl)) rfl ⟨cells_one (Own.one hO_t6), ⟨_, rfl, by first | rfl | (simp [Value.cells]; done) | (simp [Value.cells, *]; done), by decide⟩, cells_one (Own.one hO_t10), ⟨_, rfl, by first | rfl | (simp [Value.cells]; done) | (simp [Value.cells, *]; done), by decide⟩, rfl, ⟨_, rfl, by first | rfl | (simp [Value.cells]; done) | (simp [Value.cells, *]; done), by decide⟩, trivial⟩)) fun a hA => ?_
   replace hH := hH.pick [4, 0, 1, 2, 3, 5] (Hs' := [_, _, _, _, _, _]) rfl
   refine a0n hA 12 8191 rfl (lo_storeAm hH ti29 rfl rfl (rfl) (rfl) (ones_cons (Own.one hO_t6) (ones_cons (Own.one hO_t10) (ones_cons rfl (ones_cons (Own.one hOo_t13) (ones_cons (Own.one hOp_t13) ones_nil)))))) ?_
   clear hH; rintro _ w hH
   refine a_end (by kernel_rfl) ?_ _
   refine hK2 _ _ ?_
   clear hK2
   replace hA := hA.s1 2
   refine wp_ret ?_
   refine post_ret hA (res_c rfl hA rfl (resW hH 0 rfl Tryd.underlying29 rfl ti29 (by first | assumption | (rw [List.length_map]; assumption) | rfl | exact sha_length _ | (simp; done) | (simp [*]; done) | omega))) ?_
   replace hH := hH.pick [4, 3, 1, 2, 0, 5] (Hs' := [_, _, _, _, _, _]) rfl
   replace hH := hH.pick [0, 1, 2, 3] (Hs' := [_, _, _, _]) rfl
   exact ⟨_, rfl, v_t6, v_t10, v_ot13, v_pt13, N_t6, N_t10, N_ot13, N_pt13, rfl, by simpa using hO_t6, by simpa using hO_t10, hOo_t13, hOp_t13, hH⟩
  ·skip
   refine o1 hA 4 887 rfl (lo_bs (f := B8) (e := 5) ([]) hH rfl rfl (fun w => by kernel_rfl)) ?_
   clear hH; rintro v_t7 w ⟨N_t7, hO_t7, hH⟩
   replace hS := hH.pick [2, 3] (Hs' := [_, _]) rfl
   refine ⟨fun _ _ => hS, ?_⟩
   intro a hA
   replace hH := hH.pick [1, 0, 2, 3] (Hs' := [_, _, _, _]) rfl
   refine a1 hA 3 895 rfl (lo_appm hH Tryd.underlying22 Tryd.underlying22 (.inl rfl) ti5 rfl rfl rfl hO_t3 (Rd.src (hH.rd htv)) (one_B8 _) (by first | omega | (simp; done) | (simp; omega)) (by first | omega | (simp; done) | (simp; omega))) ?_
   clear hH; rintro v_t6 w ⟨N_t6, hO_t6, hH⟩
   replace hS := hH.pick [2, 3] (Hs' := [_, _]) rfl
   refine ⟨fun _ _ => hS, ?_⟩
   intro a hA
   replace hH := hH.pick [1, 0, 2, 3] (Hs' := [_, _, _, _]) rfl
   refine a1 hA 7 1023 rfl (lo_appm hH Tryd.underlying22 Tryd.underlying22 (.inl rfl) ti5 rfl rfl rfl hO_t7 (Rd.src (hH.rd hvv)) (one_B8 _) (by first | omega | (simp; done) | (simp; omega)) (by first | omega | (simp; done) | (simp; omega))) ?_
   clear hH; rintro v_t10 w ⟨N_t10, hO_t10, hH⟩
   replace hS := hH.pick [2, 3] (Hs' := [_, _]) rfl
   refine ⟨fun _ _ => hS, ?_⟩
   intro a hA
   refine a1 hA 10 2047 rfl (lo_call fn59 rfl (copy7_any _ _ _ _ _ (by first | assumption | exact Dg.nil) (by first | assumption | exact Dg.nil) (hH.rd hua) (hH.rd hxa) (by first | omega | (simp; done) | (simp; omega)) (by first | omega | (simp; done) | (simp; omega)))) ?_
   rintro _ w ⟨v_ot13, v_pt13, N_ot13, N_pt13, rfl, hOo_t13, hOp_t13, hC⟩
   replace hH := HS.call0 hH hC
   clear hC
   replace hS := hH.pick [4, 5] (Hs' := [_, _]) rfl
   refine ⟨fun _ _ => hS, ?_⟩
   intro a hA
   refine p0 hA 11 4095 rfl (fun w => (q_buildC (css := [[v_t6], [v_t10], _]) (z := [(.slice none 0 0), (.slice none 0 0), (I 0), (.slice none 0 0), (.slice none 0 0)]) (BT.mk (pl := [(0, 1), (1, 1), (2, 3)]) (it := Tryd.t29) (by kernel_rfl) Tryd.underlying29 (by kernel_rfl) (by kernel_rfl)) rfl ⟨cells_one (Own.one hO_t6), ⟨_, rfl, by first | rfl | (simp [Value.cells]; done) | (simp [Value.cells, *]; done), by decide⟩, cells_one (Own.one hO_t10), ⟨_, rfl, by first | rfl | (simp [Value.cells]; done) | (simp [Value.cells, *]; done), by decide⟩, rfl, ⟨_, rfl, by first | rfl | (simp [Value.cells]; done) | (simp [Value.cells, *]; done), by decide⟩, trivial⟩)) fun a hA => ?_
   replace hH := hH.pick [4, 0, 1, 2, 3, 5] (Hs' := [_, _, _, _, _, _]) rfl
   refine a0n hA 12 8191 rfl (lo_storeAm hH ti29 rfl rfl (rfl) (rfl) (ones_cons (Own.one hO_t6) (ones_cons (Own.one hO_t10) (ones_cons rfl (ones_cons (Own.one hOo_t13) (ones_cons (Own.one hOp_t13) ones_nil)))))) ?_
   clear hH; rintro _ w hH
   refine a_end (by kernel_rfl) ?_ _
   refine hK2 _ _ ?_
   clear hK2
   replace hA := hA.s1 2
   refine wp_ret ?_
   refine post_ret hA (res_c rfl hA rfl (resW hH 0 rfl Tryd.underlying29 rfl ti29 (by first | assumption | (rw [List.length_map]; assumption) | rfl | exact sha_length _ | (simp; done) | (simp [*]; done) | omega))) ?_
   replace hH := hH.pick [4, 3, 1, 2, 0, 5] (Hs' := [_, _, _, _, _, _]) rfl
   replace hH := hH.pick [0, 1, 2, 3] (Hs' := [_, _, _, _]) rfl
   exact ⟨_, rfl, v_t6, v_t10, v_ot13, v_pt13, N_t6, N_t10, N_ot13, N_pt13, rfl, by simpa using hO_t6, by simpa using hO_t10, hOo_t13, hOp_t13, hH⟩
 ·skip
  refine o1 hA 4 886 rfl (lo_bs (f := B8) (e := 5) ([]) hH rfl rfl (fun w => by kernel_rfl)) ?_
  clear hH; rintro v_t7 w ⟨N_t7, hO_t7, hH⟩
  replace hS := hH.pick [1, 2] (Hs' := [_, _]) rfl
  refine ⟨fun _ _ => hS, ?_⟩
  intro a hA
  refine a1 hA 0 887 rfl (lo_bs (f := B8) (e := 5) ([]) hH rfl rfl (fun w => by kernel_rfl)) ?_
  clear hH; rintro v_t3 w ⟨N_t3, hO_t3, hH⟩
  replace hS := hH.pick [2, 3] (Hs' := [_, _]) rfl
  refine ⟨fun _ _ => hS, ?_⟩
  intro a hA
  refine a1 hA 3 895 rfl (lo_appm hH Tryd.underlying22 Tryd.underlying22 (.inl rfl) ti5 rfl rfl rfl hO_t3 (Rd.src (hH.rd htv)) (one_B8 _) (by first | omega | (simp; done) | (simp; omega)) (by first | omega | (simp; done) | (simp; omega))) ?_
  clear hH; rintro v_t6 w ⟨N_t6, hO_t6, hH⟩
  replace hS := hH.pick [2, 3] (Hs' := [_, _]) rfl
  refine ⟨fun _ _ => hS, ?_⟩
  intro a hA
  replace hH := hH.pick [1, 0, 2, 3] (Hs' := [_, _, _, _]) rfl
  refine a1 hA 7 1023 rfl (lo_appm hH Tryd.underlying22 Tryd.underlying22 (.inl rfl) ti5 rfl rfl rfl hO_t7 (Rd.src (hH.rd hvv)) (one_B8 _) (by first | omega | (simp; done) | (simp; omega)) (by first | omega | (simp; done) | (simp; omega))) ?_
  clear hH; rintro v_t10 w ⟨N_t10, hO_t10, hH⟩
  replace hS := hH.pick [2, 3] (Hs' := [_, _]) rfl
  refine ⟨fun _ _ => hS, ?_⟩
  intro a hA
  refine a1 hA 10 2047 rfl (lo_call fn59 rfl (copy7_any _ _ _ _ _ (by first | assumption | exact Dg.nil) (by first | assumption | exact Dg.nil) (hH.rd hua) (hH.rd hxa) (by first | omega | (simp; done) | (simp; omega)) (by first | omega | (simp; done) | (simp; omega)))) ?_
  rintro _ w ⟨v_ot13, v_pt13, N_ot13, N_pt13, rfl, hOo_t13, hOp_t13, hC⟩
  replace hH := HS.call0 hH hC
  clear hC
  replace hS := hH.pick [4, 5] (Hs' := [_, _]) rfl
  refine ⟨fun _ _ => hS, ?_⟩
  intro a hA
  refine p0 hA 11 4095 rfl (fun w => (q_buildC (css := [[v_t6], [v_t10], _]) (z := [(.slice none 0 0), (.slice none 0 0), (I 0), (.slice none 0 0), (.slice none 0 0)]) (BT.mk (pl := [(0, 1), (1, 1), (2, 3)]) (it := Tryd.t29) (by kernel_rfl) Tryd.underlying29 (by kernel_rfl) (by kernel_rfl)) rfl ⟨cells_one (Own.one hO_t6), ⟨_, rfl, by first | rfl | (simp [Value.cells]; done) | (simp [Value.cells, *]; done), by decide⟩, cells_one (Own.one hO_t10), ⟨_, rfl, by first | rfl | (simp [Value.cells]; done) | (simp [Value.cells, *]; done), by decide⟩, rfl, ⟨_, rfl, by first | rfl | (simp [Value.cells]; done) | (simp [Value.cells, *]; done), by decide⟩, trivial⟩)) fun a hA => ?_
  replace hH := hH.pick [4, 0, 1, 2, 3, 5] (Hs' := [_, _, _, _, _, _]) rfl
  refine a0n hA 12 8191 rfl (lo_storeAm hH ti29 rfl rfl (rfl) (rfl) (ones_cons (Own.one hO_t6) (ones_cons (Own.one hO_t10) (ones_cons rfl (ones_cons (Own.one hOo_t13) (ones_cons (Own.one hOp_t13) ones_nil)))))) ?_
  clear hH; rintro _ w hH
  refine a_end (by kernel_rfl) ?_ _
  refine hK2 _ _ ?_
  clear hK2
  replace hA := hA.s1 2
  refine wp_ret ?_
  refine post_ret hA (res_c rfl hA rfl (resW hH 0 rfl Tryd.underlying29 rfl ti29 (by first | assumption | (rw [List.length_map]; assumption) | rfl | exact sha_length _ | (simp; done) | (simp [*]; done) | omega))) ?_
  replace hH := hH.pick [4, 3, 1, 2, 0, 5] (Hs' := [_, _, _, _, _, _]) rfl
  replace hH := hH.pick [0, 1, 2, 3] (Hs' := [_, _, _, _]) rfl
  exact ⟨_, rfl, v_t6, v_t10, v_ot13, v_pt13, N_t6, N_t10, N_ot13, N_pt13, rfl, by simpa using hO_t6, by simpa using hO_t10, hOo_t13, hOp_t13, hH⟩

theorem same20_any {w0 : World} (tv vv : Value) (T V : Bs) (htv : By [] w0 tv T) (hvv : By [] w0 vv V) (hlT : T.length ≤ 1048576) (hlV : V.length ≤ 1048576) (ix : Int) (ua xa : Value) (A B : List Bs) (hdA : Dg A) (hdB : Dg B) (hua : RdD [] w0 ua A) (hxa : RdD [] w0 xa B) (hlA : A.length ≤ 1048576) (hlB : B.length ≤ 1048576) (tv2 vv2 : Value) (T2 V2 : Bs) (htv2 : By [] w0 tv2 T2) (hvv2 : By [] w0 vv2 V2) (hlT2 : T2.length ≤ 1048576) (hlV2 : V2.length ≤ 1048576) (jx : Int) (uc xc : Value) (C D : List Bs) (hdC : Dg C) (hdD : Dg D) (huc : RdD [] w0 uc C) (hxc : RdD [] w0 xc D) (hlC : C.length ≤ 1048576) (hlD : D.length ≤ 1048576) :
    Calls Tryd.prog 33 #[(.agg #[tv, vv, I ix, ua, xa]), (.agg #[tv2, vv2, I jx, uc, xc])] w0 (Ret fun r w' => r = .bool (decide (T = T2 ∧ V = V2 ∧ ix = jx ∧ A = C ∧ B = D)) ∧ HS [] w0 w' []) := by
 have hH := HS.start w0
 refine start (n := 24) (E := [(0, _), (1, _)]) Tryd.func33 rfl rfl rfl (args_look rfl) ?_
 intro a hA
 refine wp_seq_k fun K1 hK1 => ?_
 refine wp_region_lit ?_
 refine sl hA (lo_boxA hH rfl) rfl ?_
 clear hH; rintro _ w ⟨b_t2, rfl, hH⟩ a hA
 refine sl hA (lo_boxA hH rfl) rfl ?_
 clear hH; rintro _ w ⟨b_t3, rfl, hH⟩ a hA
 refine asg hA fun a hA => ?_
 refine wpList_nil ?_
 refine hK1 _ _ ?_
 clear hK1
 replace hA := hA.s3 4 3 2
 refine wp_seq_k fun K2 hK2 => ?_
 refine wp_region_lit ?_
 refine sq hA (q_fld 0 Tryd.underlying29 rfl rfl ti22 rfl) rfl fun a hA => ?_
 refine sq hA (q_loadB hH 1 rfl (List.mem_singleton.2 rfl) Tryd.underlying22 rfl rfl rfl) rfl fun a hA => ?_
 refine sq hA (q_fld 0 Tryd.underlying29 rfl rfl ti22 rfl) rfl fun a hA => ?_
 refine sq hA (q_loadB hH 0 rfl (List.mem_singleton.2 rfl) Tryd.underlying22 rfl rfl rfl) rfl fun a hA => ?_
 refine sl hA (lo_call fn16 rfl (same_any _ _ _ _ (hH.rd htv) (hH.rd htv2) (by first | omega | (simp; done) | (simp; omega)) (by first | omega | (simp; done) | (simp; omega)))) rfl ?_
 rintro _ w ⟨rfl, hC⟩ a hA
 replace hH := HS.call0 hH hC
 clear hC
 refine hA.spl (fun hs9 hA => ?_) (fun hs9 hA => ?_)
 ·skip
  refine mv hA fun a hA => ?_
  refine gq hA rfl rfl (q_fld 1 Tryd.underlying29 rfl rfl ti22 rfl) rfl fun a hA => ?_
  refine gq hA rfl rfl (q_loadB hH 1 rfl (List.mem_singleton.2 rfl) Tryd.underlying22 rfl rfl rfl) rfl fun a hA => ?_
  refine gq hA rfl rfl (q_fld 1 Tryd.underlying29 rfl rfl ti22 rfl) rfl fun a hA => ?_
  refine gq hA rfl rfl (q_loadB hH 0 rfl (List.mem_singleton.2 rfl) Tryd.underlying22 rfl rfl rfl) rfl fun a hA => ?_
  refine gl hA rfl rfl (lo_call fn16 rfl (same_any _ _ _ _ (hH.rd hvv) (hH.rd hvv2) (by first | omega | (simp; done) | (simp; omega)) (by first | omega | (simp; done) | (simp; omega)))) rfl ?_
  rintro _ w ⟨rfl, hC⟩ a hA
  replace hH := HS.call0 hH hC
  clear hC
  refine sq hA (q_pick_t rfl rfl) rfl fun a hA => ?_
  refine hA.spl (fun hs16 hA => ?_) (fun hs16 hA => ?_)
  ·skip
   refine mv hA fun a hA => ?_
   refine gq hA rfl rfl (q_fld 2 Tryd.underlying29 rfl rfl ti27 rfl) rfl fun a hA => ?_
   refine gq hA rfl rfl (q_loadBA hH 1 rfl (List.mem_singleton.2 rfl) Tryd.underlying27 rfl ti27 rfl [_, _, _] rfl rfl) rfl fun a hA => ?_
   refine gq hA rfl rfl (q_fld 2 Tryd.underlying29 rfl rfl ti27 rfl) rfl fun a hA => ?_
   refine gq hA rfl rfl (q_loadBA hH 0 rfl (List.mem_singleton.2 rfl) Tryd.underlying27 rfl ti27 rfl [_, _, _] rfl rfl) rfl fun a hA => ?_
   refine gl hA rfl rfl (lo_call fn51 rfl (same7_any _ _ _ _ _ (by first | assumption | exact Dg.nil) (by first | assumption | exact Dg.nil) (hH.rd hua) (hH.rd hxa) (by first | omega | (simp; done) | (simp; omega)) (by first | omega | (simp; done) | (simp; omega)) _ _ _ _ _ (by first | assumption | exact Dg.nil) (by first | assumption | exact Dg.nil) (hH.rd huc) (hH.rd hxc) (by first | omega | (simp; done) | (simp; omega)) (by first | omega | (simp; done) | (simp; omega)))) rfl ?_
   rintro _ w ⟨rfl, hC⟩ a hA
   replace hH := HS.call0 hH hC
   clear hC
   refine sq hA (q_pick_t rfl rfl) rfl fun a hA => ?_
   refine asg hA fun a hA => ?_
   refine wpList_nil ?_
   refine hK2 _ _ ?_
   clear hK2
   replace hA := hA.s1 4
   refine wp_ret ?_
   refine post_ret hA (res_1 rfl hA rfl) ?_
   replace hH := hH.pick [] (Hs' := []) rfl
   exact ⟨_, rfl, by congr 1; symm; first | exact decide_eq_false (fun hV => by obtain ⟨h1, h2, h3⟩ := hV; contradiction) | exact decide_eq_decide.2 ⟨fun hV => hV.2.2, fun hV => ⟨by assumption, by assumption, hV⟩⟩, hH⟩
  ·skip
   refine mv hA fun a hA => ?_
   refine gs hA rfl rfl rfl rfl fun a hA => ?_
   refine gs hA rfl rfl rfl rfl fun a hA => ?_
   refine gs hA rfl rfl rfl rfl fun a hA => ?_
   refine gs hA rfl rfl rfl rfl fun a hA => ?_
   refine gs hA rfl rfl rfl rfl fun a hA => ?_
   refine sq hA (q_pick_f rfl rfl) rfl fun a hA => ?_
   refine asg hA fun a hA => ?_
   refine wpList_nil ?_
   refine hK2 _ _ ?_
   clear hK2
   replace hA := hA.s1 4
   refine wp_ret ?_
   refine post_ret hA (res_1 rfl hA rfl) ?_
   replace hH := hH.pick [] (Hs' := []) rfl
   exact ⟨_, rfl, by congr 1; symm; first | exact decide_eq_false (fun hV => by obtain ⟨h1, h2, h3⟩ := hV; contradiction) | exact decide_eq_decide.2 ⟨fun hV => hV.2.2, fun hV => ⟨by assumption, by assumption, hV⟩⟩, hH⟩
 ·skip
  refine mv hA fun a hA => ?_
  refine gs hA rfl rfl rfl rfl fun a hA => ?_
  refine gs hA rfl rfl rfl rfl fun a hA => ?_
  refine gs hA rfl rfl rfl rfl fun a hA => ?_
  refine gs hA rfl rfl rfl rfl fun a hA => ?_
  refine gs hA rfl rfl rfl rfl fun a hA => ?_
  refine sq hA (q_pick_f rfl rfl) rfl fun a hA => ?_
  refine mv hA fun a hA => ?_
  refine gs hA rfl rfl rfl rfl fun a hA => ?_
  refine gs hA rfl rfl rfl rfl fun a hA => ?_
  refine gs hA rfl rfl rfl rfl fun a hA => ?_
  refine gs hA rfl rfl rfl rfl fun a hA => ?_
  refine gs hA rfl rfl rfl rfl fun a hA => ?_
  refine sq hA (q_pick_f rfl rfl) rfl fun a hA => ?_
  refine asg hA fun a hA => ?_
  refine wpList_nil ?_
  refine hK2 _ _ ?_
  clear hK2
  replace hA := hA.s1 4
  refine wp_ret ?_
  refine post_ret hA (res_1 rfl hA rfl) ?_
  replace hH := hH.pick [] (Hs' := []) rfl
  exact ⟨_, rfl, by congr 1; symm; first | exact decide_eq_false (fun hV => by obtain ⟨h1, h2, h3⟩ := hV; contradiction) | exact decide_eq_decide.2 ⟨fun hV => hV.2.2, fun hV => ⟨by assumption, by assumption, hV⟩⟩, hH⟩

end Go.Proofs.YtnnkgdijaekcfaaDoor
