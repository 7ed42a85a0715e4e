/- Layer 22 (worker): right values, orders' bytes. -/
import Derived.Test.YtnnkgdijaekcfaaGreatDoorIe
import Derived.Test.YtnnkgdijaekcfaaGreatDoorBi
import Derived.Test.YtnnkgdijaekcfaaGreatDoorBd
import Derived.Test.YtnnkgdijaekcfaaGreatDoorMzc
import Derived.Test.YtnnkgdijaekcfaaGreatDoorLl
namespace Go.Proofs.YtnnkgdijaekcfaaGreatDoor
open Go
set_option linter.unusedVariables false
set_option linter.unusedSimpArgs false
set_option maxRecDepth 100000

theorem right22_any {w0 : World} {lv : Nat} (hg : Gl lv w0) (v : Value) (l : Bs) (hr : By [] w0 v l) (hl : l.length ≤ 1048000) :
    Calls Tryz.prog 18 #[v] w0 (Ret fun r w' => ∃ v' N, v' = r ∧ Ow B8 5 v' (rightV l) N ∧ HS [] w0 w' [N]) := by
 have hH := HS.start w0
 refine start (n := 18) (E := [(0, _)]) Tryz.func18 rfl rfl rfl (args_look rfl) ?_
 intro a hA
 refine wp_seq_k fun K1 hK1 => ?_
 refine wp_region_lit ?_
 refine asg hA fun a hA => ?_
 refine wpList_nil ?_
 refine hK1 _ _ ?_
 clear hK1
 refine wp_seq_k fun K2 hK2 => ?_
 refine wp_region_lit ?_
 refine sl hA (lo_call fn43 rfl (new_any (hg.mono0 hH))) rfl ?_
 rintro _ w ⟨b_t5, N_t5, rfl, hO_t5, hC⟩ a hA
 replace hH := HS.call0 hH hC
 clear hC
 refine asg hA fun a hA => ?_
 refine wpList_nil ?_
 refine hK2 _ _ ?_
 clear hK2
 replace hA := hA.s3 3 2 0
 refine wp_seq_k fun K3 hK3 => ?_
 refine wp_region_lit ?_
 refine mv hA fun a hA => ?_
 refine sl hA (lo_bsR (e := 5) ([119#8, 111#8, 114#8, 107#8]) hH rfl rfl (fun w => by kernel_rfl)) rfl ?_
 clear hH; rintro _ w ⟨b_t7, rfl, hH⟩ a hA
 refine sl hA (lo_cvBytes hH Tryz.underlying41 Tryz.underlying5 rfl rfl) rfl ?_
 clear hH; rintro v_t8 w ⟨N_t8, hO_t8, hH⟩ a hA
 replace hH := hH.pick [1, 0] (Hs' := [_, _]) rfl
 refine sl hA (lo_call fn44 rfl (write_any (hg.mono hH NG.nil) (doms [N_t5]) (hg.ng NG.nil hH) b_t5 ([]) ([119#8, 111#8, 114#8, 107#8]) _ N_t5 hO_t5 (Own.rdM hO_t8 (Ns1 := [_]) hH 0 rfl) (by first | (simp; done) | (simp; omega) | omega) (HS.handed (Ns1 := [_]) hH))) rfl ?_
 rintro _ w ⟨rfl, N_t5, hO_t5, hC⟩ a hA
 replace hH := HS.call (Ns1 := [_]) hH hC
 clear hC
 refine wpList_nil ?_
 refine hK3 _ _ ?_
 clear hK3
 replace hA := hA.s3 3 2 0
 refine wp_seq_k fun K4 hK4 => ?_
 refine wp_region_lit ?_
 refine mv hA fun a hA => ?_
 refine mv hA fun a hA => ?_
 refine sl hA (lo_call fn44 rfl (write_any (hg.mono hH NG.nil) (doms [N_t5]) (hg.ng NG.nil hH) b_t5 ([119#8, 111#8, 114#8, 107#8]) (l) _ N_t5 hO_t5 (HS.rdM (Ns1 := [_]) hH hr) (by first | (simp; done) | (simp; omega) | omega) (HS.handed (Ns1 := [_]) hH))) rfl ?_
 rintro _ w ⟨rfl, N_t5, hO_t5, hC⟩ a hA
 replace hH := HS.call (Ns1 := [_]) hH hC
 clear hC
 refine wpList_nil ?_
 refine hK4 _ _ ?_
 clear hK4
 replace hA := hA.s2 3 2
 refine wp_seq_k fun K5 hK5 => ?_
 refine wp_region_lit ?_
 refine mv hA fun a hA => ?_
 refine sl hA (lo_call fn45 rfl (hsum_any (hg.mono0 hH) b_t5 ((WORK ++ l)) N_t5 hO_t5 (RO.of hH 0 rfl) (by simp; omega))) rfl ?_
 rintro _ w ⟨rfl, hC⟩ a hA
 replace hH := HS.call0 hH hC
 clear hC
 refine sl hA (lo_allocA hH ti25) rfl ?_
 clear hH; rintro _ w ⟨b_t4, rfl, hH⟩ a hA
 refine s0 hA (lo_storeAm hH ti25 rfl rfl (by first | assumption | (rw [List.length_map]; assumption) | rfl | exact sha_length _ | (simp; done) | (simp [*]; done) | omega) (by first | assumption | (rw [List.length_map]; assumption) | rfl | exact sha_length _ | (simp; done) | (simp [*]; done) | omega) (one_B8 _)) ?_
 clear hH; rintro _ w hH
 refine wpList_nil ?_
 refine hK5 _ _ ?_
 clear hK5
 replace hA := hA.s2 4 2
 refine wp_seq_k fun K6 hK6 => ?_
 refine wp_region_lit ?_
 refine sl hA (lo_bs (f := B8) (e := 5) ([]) hH rfl rfl (fun w => by kernel_rfl)) rfl ?_
 clear hH; rintro v_t15 w ⟨N_t15, hO_t15, hH⟩ a hA
 refine sq hA (q_sliceA Tryz.underlying25 ti5 rfl 0 8 rfl rfl rfl rfl (by omega) (by omega)) rfl fun a hA => ?_
 refine sl hA (lo_appm hH Tryz.underlying41 Tryz.underlying41 (.inl rfl) ti5 rfl rfl rfl hO_t15 (Rd.src (HS.by8 hH 1 rfl (sha_length _))) (one_B8 _) (by first | omega | (simp only [List.length_take, List.length_nil]; omega)) (by first | omega | (simp only [List.length_take, List.length_nil]; omega))) rfl ?_
 clear hH; rintro v_t17 w ⟨N_t17, hO_t17, hH⟩ a hA
 refine asg hA fun a hA => ?_
 refine wpList_nil ?_
 refine hK6 _ _ ?_
 clear hK6
 replace hA := hA.s1 2
 refine wp_ret ?_
 refine post_ret hA (res_1 rfl hA rfl) ?_
 replace hH := hH.pick [0] (Hs' := [_]) rfl
 exact ⟨_, rfl, v_t17, N_t17, rfl, by simpa [rightV] using hO_t17, hH⟩

set_option maxHeartbeats 1000000 in
theorem encw_any {w0 : World} {lv : Nat} (hg : Gl lv w0) (key : Bs) (hkey : key.length = 32) (jj aa ii : Int) (tv pv : Value) (T Pl : Bs) (htv : By [] w0 tv T) (hpv : By [] w0 pv Pl) (hlT : T.length ≤ 1048576) (hlP : Pl.length ≤ 1048576) (nn : Bs) (hnn : nn.length = 32) :
    Calls Tryz.prog 17 #[(.agg ((key).map B8).toArray), (.agg (ordC jj aa ii tv pv nn).toArray)] w0 (Ret fun r w' => ∃ v' N, r = .tuple #[v', I (encO key jj aa ii T Pl nn).2] ∧ Ow B8 5 v' (encO key jj aa ii T Pl nn).1 N ∧ HS [] w0 w' [N]) := by
 have hH := HS.start w0
 refine start (n := 61) (E := [(0, _), (1, _)]) Tryz.func17 rfl rfl rfl (args_look rfl) ?_
 intro a hA
 refine wp_seq_k fun K1 hK1 => ?_
 refine wp_region_lit ?_
 refine sl hA (lo_boxA hH rfl) rfl ?_
 clear hH; rintro _ w ⟨b_t2, rfl, hH⟩ a hA
 refine sl hA (lo_boxA hH rfl) rfl ?_
 clear hH; rintro _ w ⟨b_t3, rfl, hH⟩ a hA
 refine asg hA fun a hA => ?_
 refine asg hA fun a hA => ?_
 refine wpList_nil ?_
 refine hK1 _ _ ?_
 clear hK1
 replace hA := hA.s4 5 4 3 2
 refine wp_seq_k fun K2 hK2 => ?_
 refine wp_region_lit ?_
 refine asg hA fun a hA => ?_
 refine wpList_nil ?_
 refine hK2 _ _ ?_
 clear hK2
 refine wp_seq_k fun K3 hK3 => ?_
 refine wp_seq_k fun K4 hK4 => ?_
 refine wp_region_lit ?_
 refine sq hA (q_fld 0 Tryz.underlying45 rfl rfl ti3 rfl) rfl fun a hA => ?_
 refine sq hA (q_loadB hH 0 rfl (List.mem_singleton.2 rfl) Tryz.underlying3 rfl rfl rfl) rfl fun a hA => ?_
 refine sq hA (q_fld 1 Tryz.underlying45 rfl rfl ti3 rfl) rfl fun a hA => ?_
 refine sq hA (q_loadB hH 0 rfl (List.mem_singleton.2 rfl) Tryz.underlying3 rfl rfl rfl) rfl fun a hA => ?_
 refine sq hA (q_fld 2 Tryz.underlying45 rfl rfl ti3 rfl) rfl fun a hA => ?_
 refine sq hA (q_loadB hH 0 rfl (List.mem_singleton.2 rfl) Tryz.underlying3 rfl rfl rfl) rfl fun a hA => ?_
 refine sq hA (q_buildV (vs := [I jj, I aa, I ii]) (zs := [(I 0), (I 0), (I 0)]) (it := Tryz.t95) (ie := Tryz.t3) (by kernel_rfl) Tryz.underlying95 (by kernel_rfl) (by kernel_rfl) rfl rfl rfl (ones_cons rfl (ones_cons rfl (ones_cons rfl ones_nil)))) rfl fun a hA => ?_
 refine mv hA fun a hA => ?_
 refine wpList_nil ?_
 refine hK4 _ _ ?_
 clear hK4
 replace hA := hA.s7 17 16 6 5 4 3 2
 refine wp_block ?_
 replace hH := hH.nilFront
 replace hH := HS.fold [_] [_, _] hH
 obtain ⟨NR5, hNR5, hH⟩ := hH
 refine wp_loop_ghost (fun gm a w => ∃ q : Nat, ∃ v_o : Value, ∃ N_o : Hl, At 61 [(17, I q), (16, (.agg #[I jj, I aa, I ii])), (6, v_o), (5, (I 0)), (4, (.slice none 0 0)), (3, (.pointer (some ⟨b_t3, 0, none⟩))), (2, (.pointer (some ⟨b_t2, 0, none⟩)))] a ∧ HS [] w0 w ([N_o, NR5]) ∧ (q ≤ 3) ∧ ((1 ≤ q → 0 ≤ jj ∧ jj ≤ 1099511627776) ∧ (2 ≤ q → 0 ≤ aa ∧ aa ≤ 1099511627776) ∧ (3 ≤ q → 0 ≤ ii ∧ ii ≤ 1099511627776)) ∧ ((numO jj.toNat aa.toNat ii.toNat q).length ≤ 9 * q) ∧ (Ow B8 5 v_o (numO jj.toNat aa.toNat ii.toNat q) N_o) ∧ gm = 3 - q) (3 - (0)) ⟨0, nilV, [], hA.sub ⟨rfl, rfl, rfl, rfl, rfl, rfl, rfl, trivial⟩, hH, by omega, by omega, by simp [numO], by exact Ow.nil B8 _, rfl⟩ ?_
 clear hA hH
 rintro gm a w ⟨q, v_o, N_o, hA, hH, hq, hqp, hql, hO_o, rfl⟩
 refine wp_seq_k fun K6 hK6 => ?_
 refine wp_region_lit ?_
 refine sq hA (q_lssI (n := 3) rfl rfl) rfl fun a hA => ?_
 rcases (show q = 0 ∨ q = 1 ∨ q = 2 ∨ q = 3 by omega) with rfl | rfl | rfl | rfl
 ·skip
  replace hA := hA.decT (by decide)
  refine wpList_nil ?_
  refine hK6 _ _ ?_
  clear hK6
  refine wp_seq_k fun K7 hK7 => ?_
  refine cond_t hA rfl ?_
  refine wp_skip ?_
  refine hK7 _ _ ?_
  clear hK7
  refine wp_seq_k fun K8 hK8 => ?_
  refine wp_block ?_
  refine wp_seq_k fun K9 hK9 => ?_
  refine wp_region_lit ?_
  refine sq hA (q_index Tryz.underlying95 ti3 Tryz.underlying3 rfl rfl rfl ⟨by decide, by decide⟩ rfl) rfl fun a hA => ?_
  refine asg hA fun a hA => ?_
  refine wpList_nil ?_
  refine hK9 _ _ ?_
  clear hK9
  refine wp_seq_k fun K10 hK10 => ?_
  refine wp_seq_k fun K11 hK11 => ?_
  refine wp_region_lit ?_
  refine mv hA fun a hA => ?_
  refine sq hA (q_lssI (n := 0) rfl rfl) rfl fun a hA => ?_
  refine hA.spl (fun hs21 hA => ?_) (fun hs21 hA => ?_)
  ·skip
   refine mv hA fun a hA => ?_
   refine gs hA rfl rfl rfl rfl fun a hA => ?_
   refine gs hA rfl rfl rfl rfl fun a hA => ?_
   refine sq hA (q_pick_t rfl rfl) rfl fun a hA => ?_
   refine wpList_nil ?_
   refine hK11 _ _ ?_
   clear hK11
   refine cond_t hA rfl ?_
   refine wp_seq_k fun K12 hK12 => ?_
   refine wp_region_lit ?_
   refine asg hA fun a hA => ?_
   refine asg hA fun a hA => ?_
   refine wpList_nil ?_
   refine hK12 _ _ ?_
   clear hK12
   refine wp_ret ?_
   refine then_ret ?_
   refine block_ret ?_
   refine then_ret ?_
   refine then_ret ?_
   refine block_ret ?_
   refine then_ret ?_
   replace hH := HS.unfold [_] hNR5 hH
   refine post_ret hA (res_2 rfl hA rfl rfl) ?_
   replace hH := hH.pick [] (Hs' := []) rfl
   exact ⟨_, rfl, nilV, [], by rw [encO_bad (by unfold MayO; omega)]; rfl, by rw [encO_bad (by unfold MayO; omega)]; exact Ow.nil B8 _, hH.nilFront⟩
  ·skip
   refine mv hA fun a hA => ?_
   refine gq hA rfl rfl (q_move rfl) rfl fun a hA => ?_
   refine gq hA rfl rfl (q_gtrI (n := 1099511627776) rfl rfl) rfl fun a hA => ?_
   refine hA.spl (fun hs24 hA => ?_) (fun hs24 hA => ?_)
   ·skip
    refine sq hA (q_pick_f rfl rfl) rfl fun a hA => ?_
    refine wpList_nil ?_
    refine hK11 _ _ ?_
    clear hK11
    refine cond_t hA rfl ?_
    refine wp_seq_k fun K13 hK13 => ?_
    refine wp_region_lit ?_
    refine asg hA fun a hA => ?_
    refine asg hA fun a hA => ?_
    refine wpList_nil ?_
    refine hK13 _ _ ?_
    clear hK13
    refine wp_ret ?_
    refine then_ret ?_
    refine block_ret ?_
    refine then_ret ?_
    refine then_ret ?_
    refine block_ret ?_
    refine then_ret ?_
    replace hH := HS.unfold [_] hNR5 hH
    refine post_ret hA (res_2 rfl hA rfl rfl) ?_
    replace hH := hH.pick [] (Hs' := []) rfl
    exact ⟨_, rfl, nilV, [], by rw [encO_bad (by unfold MayO; omega)]; rfl, by rw [encO_bad (by unfold MayO; omega)]; exact Ow.nil B8 _, hH.nilFront⟩
   ·skip
    refine sq hA (q_pick_f rfl rfl) rfl fun a hA => ?_
    refine wpList_nil ?_
    refine hK11 _ _ ?_
    clear hK11
    refine cond_f hA rfl ?_
    refine wp_skip ?_
    refine hK10 _ _ ?_
    clear hK10
    refine wp_region_lit ?_
    refine mv hA fun a hA => ?_
    refine mv hA fun a hA => ?_
    refine sq hA (q_cvI64 Tryz.underlying3 Tryz.underlying97 rfl) rfl fun a hA => ?_
    refine sl hA (lo_call fn40 rfl (wnum_any _)) rfl ?_
    rintro _ w ⟨v_t29, N_t29, rfl, hO_t29, hC⟩ a hA
    replace hH := HS.call0 hH hC
    clear hC
    rw [toNat_ofIntN (by omega)] at hO_t29
    have hwl := wd_le (n := jj.toNat) (by omega)
    have hwn := wnum_length jj.toNat
    replace hH := hH.pick [1, 0, 2] (Hs' := [_, _, _]) rfl
    refine sl hA (lo_appm hH Tryz.underlying41 Tryz.underlying41 (.inl rfl) ti5 rfl rfl rfl hO_o (Rd.src (Own.rd0 hO_t29 hH 1 rfl)) (one_B8 _) (by first | omega | (simp only [List.length_append]; omega)) (by first | omega | (simp only [List.length_append]; omega))) rfl ?_
    clear hH; rintro v_t30 w ⟨N_t30, hO_t30, hH⟩ a hA
    refine asg hA fun a hA => ?_
    refine wpList_nil ?_
    refine block_normal ?_
    refine hK8 _ _ ?_
    clear hK8
    refine wp_region_lit ?_
    refine sq hA (q_addI (n := 1) rfl rfl (by omega)) rfl fun a hA => ?_
    refine mv hA fun a hA => ?_
    refine wpList_nil ?_
    replace hH := hH.pick [0, 2, 1] (Hs' := [_, _, _]) rfl
    replace hH := hH.pick [0, 1] (Hs' := [_, _]) rfl
    exact ⟨_, by omega, 1, v_t30, N_t30, hA.sub ⟨rfl, rfl, rfl, rfl, rfl, rfl, rfl, trivial⟩, hH, by omega, by omega, by (simp only [numO, List.length_append, List.length_nil] at *; omega), by exact hO_t30, rfl⟩
 ·skip
  replace hA := hA.decT (by decide)
  refine wpList_nil ?_
  refine hK6 _ _ ?_
  clear hK6
  refine wp_seq_k fun K14 hK14 => ?_
  refine cond_t hA rfl ?_
  refine wp_skip ?_
  refine hK14 _ _ ?_
  clear hK14
  refine wp_seq_k fun K15 hK15 => ?_
  refine wp_block ?_
  refine wp_seq_k fun K16 hK16 => ?_
  refine wp_region_lit ?_
  refine sq hA (q_index Tryz.underlying95 ti3 Tryz.underlying3 rfl rfl rfl ⟨by decide, by decide⟩ rfl) rfl fun a hA => ?_
  refine asg hA fun a hA => ?_
  refine wpList_nil ?_
  refine hK16 _ _ ?_
  clear hK16
  refine wp_seq_k fun K17 hK17 => ?_
  refine wp_seq_k fun K18 hK18 => ?_
  refine wp_region_lit ?_
  refine mv hA fun a hA => ?_
  refine sq hA (q_lssI (n := 0) rfl rfl) rfl fun a hA => ?_
  refine hA.spl (fun hs21 hA => ?_) (fun hs21 hA => ?_)
  ·skip
   refine mv hA fun a hA => ?_
   refine gs hA rfl rfl rfl rfl fun a hA => ?_
   refine gs hA rfl rfl rfl rfl fun a hA => ?_
   refine sq hA (q_pick_t rfl rfl) rfl fun a hA => ?_
   refine wpList_nil ?_
   refine hK18 _ _ ?_
   clear hK18
   refine cond_t hA rfl ?_
   refine wp_seq_k fun K19 hK19 => ?_
   refine wp_region_lit ?_
   refine asg hA fun a hA => ?_
   refine asg hA fun a hA => ?_
   refine wpList_nil ?_
   refine hK19 _ _ ?_
   clear hK19
   refine wp_ret ?_
   refine then_ret ?_
   refine block_ret ?_
   refine then_ret ?_
   refine then_ret ?_
   refine block_ret ?_
   refine then_ret ?_
   replace hH := HS.unfold [_] hNR5 hH
   refine post_ret hA (res_2 rfl hA rfl rfl) ?_
   replace hH := hH.pick [] (Hs' := []) rfl
   exact ⟨_, rfl, nilV, [], by rw [encO_bad (by unfold MayO; omega)]; rfl, by rw [encO_bad (by unfold MayO; omega)]; exact Ow.nil B8 _, hH.nilFront⟩
  ·skip
   refine mv hA fun a hA => ?_
   refine gq hA rfl rfl (q_move rfl) rfl fun a hA => ?_
   refine gq hA rfl rfl (q_gtrI (n := 1099511627776) rfl rfl) rfl fun a hA => ?_
   refine hA.spl (fun hs24 hA => ?_) (fun hs24 hA => ?_)
   ·skip
    refine sq hA (q_pick_f rfl rfl) rfl fun a hA => ?_
    refine wpList_nil ?_
    refine hK18 _ _ ?_
    clear hK18
    refine cond_t hA rfl ?_
    refine wp_seq_k fun K20 hK20 => ?_
    refine wp_region_lit ?_
    refine asg hA fun a hA => ?_
    refine asg hA fun a hA => ?_
    refine wpList_nil ?_
    refine hK20 _ _ ?_
    clear hK20
    refine wp_ret ?_
    refine then_ret ?_
    refine block_ret ?_
    refine then_ret ?_
    refine then_ret ?_
    refine block_ret ?_
    refine then_ret ?_
    replace hH := HS.unfold [_] hNR5 hH
    refine post_ret hA (res_2 rfl hA rfl rfl) ?_
    replace hH := hH.pick [] (Hs' := []) rfl
    exact ⟨_, rfl, nilV, [], by rw [encO_bad (by unfold MayO; omega)]; rfl, by rw [encO_bad (by unfold MayO; omega)]; exact Ow.nil B8 _, hH.nilFront⟩
   ·skip
    refine sq hA (q_pick_f rfl rfl) rfl fun a hA => ?_
    refine wpList_nil ?_
    refine hK18 _ _ ?_
    clear hK18
    refine cond_f hA rfl ?_
    refine wp_skip ?_
    refine hK17 _ _ ?_
    clear hK17
    refine wp_region_lit ?_
    refine mv hA fun a hA => ?_
    refine mv hA fun a hA => ?_
    refine sq hA (q_cvI64 Tryz.underlying3 Tryz.underlying97 rfl) rfl fun a hA => ?_
    refine sl hA (lo_call fn40 rfl (wnum_any _)) rfl ?_
    rintro _ w ⟨v_t29, N_t29, rfl, hO_t29, hC⟩ a hA
    replace hH := HS.call0 hH hC
    clear hC
    rw [toNat_ofIntN (by omega)] at hO_t29
    have hwl := wd_le (n := aa.toNat) (by omega)
    have hwn := wnum_length aa.toNat
    replace hH := hH.pick [1, 0, 2] (Hs' := [_, _, _]) rfl
    refine sl hA (lo_appm hH Tryz.underlying41 Tryz.underlying41 (.inl rfl) ti5 rfl rfl rfl hO_o (Rd.src (Own.rd0 hO_t29 hH 1 rfl)) (one_B8 _) (by first | omega | (simp only [List.length_append]; omega)) (by first | omega | (simp only [List.length_append]; omega))) rfl ?_
    clear hH; rintro v_t30 w ⟨N_t30, hO_t30, hH⟩ a hA
    refine asg hA fun a hA => ?_
    refine wpList_nil ?_
    refine block_normal ?_
    refine hK15 _ _ ?_
    clear hK15
    refine wp_region_lit ?_
    refine sq hA (q_addI (n := 1) rfl rfl (by omega)) rfl fun a hA => ?_
    refine mv hA fun a hA => ?_
    refine wpList_nil ?_
    replace hH := hH.pick [0, 2, 1] (Hs' := [_, _, _]) rfl
    replace hH := hH.pick [0, 1] (Hs' := [_, _]) rfl
    exact ⟨_, by omega, 2, v_t30, N_t30, hA.sub ⟨rfl, rfl, rfl, rfl, rfl, rfl, rfl, trivial⟩, hH, by omega, by omega, by (simp only [numO, List.length_append, List.length_nil] at *; omega), by exact hO_t30, rfl⟩
 ·skip
  replace hA := hA.decT (by decide)
  refine wpList_nil ?_
  refine hK6 _ _ ?_
  clear hK6
  refine wp_seq_k fun K21 hK21 => ?_
  refine cond_t hA rfl ?_
  refine wp_skip ?_
  refine hK21 _ _ ?_
  clear hK21
  refine wp_seq_k fun K22 hK22 => ?_
  refine wp_block ?_
  refine wp_seq_k fun K23 hK23 => ?_
  refine wp_region_lit ?_
  refine sq hA (q_index Tryz.underlying95 ti3 Tryz.underlying3 rfl rfl rfl ⟨by decide, by decide⟩ rfl) rfl fun a hA => ?_
  refine asg hA fun a hA => ?_
  refine wpList_nil ?_
  refine hK23 _ _ ?_
  clear hK23
  refine wp_seq_k fun K24 hK24 => ?_
  refine wp_seq_k fun K25 hK25 => ?_
  refine wp_region_lit ?_
  refine mv hA fun a hA => ?_
  refine sq hA (q_lssI (n := 0) rfl rfl) rfl fun a hA => ?_
  refine hA.spl (fun hs21 hA => ?_) (fun hs21 hA => ?_)
  ·skip
   refine mv hA fun a hA => ?_
   refine gs hA rfl rfl rfl rfl fun a hA => ?_
   refine gs hA rfl rfl rfl rfl fun a hA => ?_
   refine sq hA (q_pick_t rfl rfl) rfl fun a hA => ?_
   refine wpList_nil ?_
   refine hK25 _ _ ?_
   clear hK25
   refine cond_t hA rfl ?_
   refine wp_seq_k fun K26 hK26 => ?_
   refine wp_region_lit ?_
   refine asg hA fun a hA => ?_
   refine asg hA fun a hA => ?_
   refine wpList_nil ?_
   refine hK26 _ _ ?_
   clear hK26
   refine wp_ret ?_
   refine then_ret ?_
   refine block_ret ?_
   refine then_ret ?_
   refine then_ret ?_
   refine block_ret ?_
   refine then_ret ?_
   replace hH := HS.unfold [_] hNR5 hH
   refine post_ret hA (res_2 rfl hA rfl rfl) ?_
   replace hH := hH.pick [] (Hs' := []) rfl
   exact ⟨_, rfl, nilV, [], by rw [encO_bad (by unfold MayO; omega)]; rfl, by rw [encO_bad (by unfold MayO; omega)]; exact Ow.nil B8 _, hH.nilFront⟩
  ·skip
   refine mv hA fun a hA => ?_
   refine gq hA rfl rfl (q_move rfl) rfl fun a hA => ?_
   refine gq hA rfl rfl (q_gtrI (n := 1099511627776) rfl rfl) rfl fun a hA => ?_
   refine hA.spl (fun hs24 hA => ?_) (fun hs24 hA => ?_)
   ·skip
    refine sq hA (q_pick_f rfl rfl) rfl fun a hA => ?_
    refine wpList_nil ?_
    refine hK25 _ _ ?_
    clear hK25
    refine cond_t hA rfl ?_
    refine wp_seq_k fun K27 hK27 => ?_
    refine wp_region_lit ?_
    refine asg hA fun a hA => ?_
    refine asg hA fun a hA => ?_
    refine wpList_nil ?_
    refine hK27 _ _ ?_
    clear hK27
    refine wp_ret ?_
    refine then_ret ?_
    refine block_ret ?_
    refine then_ret ?_
    refine then_ret ?_
    refine block_ret ?_
    refine then_ret ?_
    replace hH := HS.unfold [_] hNR5 hH
    refine post_ret hA (res_2 rfl hA rfl rfl) ?_
    replace hH := hH.pick [] (Hs' := []) rfl
    exact ⟨_, rfl, nilV, [], by rw [encO_bad (by unfold MayO; omega)]; rfl, by rw [encO_bad (by unfold MayO; omega)]; exact Ow.nil B8 _, hH.nilFront⟩
   ·skip
    refine sq hA (q_pick_f rfl rfl) rfl fun a hA => ?_
    refine wpList_nil ?_
    refine hK25 _ _ ?_
    clear hK25
    refine cond_f hA rfl ?_
    refine wp_skip ?_
    refine hK24 _ _ ?_
    clear hK24
    refine wp_region_lit ?_
    refine mv hA fun a hA => ?_
    refine mv hA fun a hA => ?_
    refine sq hA (q_cvI64 Tryz.underlying3 Tryz.underlying97 rfl) rfl fun a hA => ?_
    refine sl hA (lo_call fn40 rfl (wnum_any _)) rfl ?_
    rintro _ w ⟨v_t29, N_t29, rfl, hO_t29, hC⟩ a hA
    replace hH := HS.call0 hH hC
    clear hC
    rw [toNat_ofIntN (by omega)] at hO_t29
    have hwl := wd_le (n := ii.toNat) (by omega)
    have hwn := wnum_length ii.toNat
    replace hH := hH.pick [1, 0, 2] (Hs' := [_, _, _]) rfl
    refine sl hA (lo_appm hH Tryz.underlying41 Tryz.underlying41 (.inl rfl) ti5 rfl rfl rfl hO_o (Rd.src (Own.rd0 hO_t29 hH 1 rfl)) (one_B8 _) (by first | omega | (simp only [List.length_append]; omega)) (by first | omega | (simp only [List.length_append]; omega))) rfl ?_
    clear hH; rintro v_t30 w ⟨N_t30, hO_t30, hH⟩ a hA
    refine asg hA fun a hA => ?_
    refine wpList_nil ?_
    refine block_normal ?_
    refine hK22 _ _ ?_
    clear hK22
    refine wp_region_lit ?_
    refine sq hA (q_addI (n := 1) rfl rfl (by omega)) rfl fun a hA => ?_
    refine mv hA fun a hA => ?_
    refine wpList_nil ?_
    replace hH := hH.pick [0, 2, 1] (Hs' := [_, _, _]) rfl
    replace hH := hH.pick [0, 1] (Hs' := [_, _]) rfl
    exact ⟨_, by omega, 3, v_t30, N_t30, hA.sub ⟨rfl, rfl, rfl, rfl, rfl, rfl, rfl, trivial⟩, hH, by omega, by omega, by (simp only [numO, List.length_append, List.length_nil] at *; omega), by exact hO_t30, rfl⟩
 ·skip
  replace hA := hA.decF (by decide)
  refine wpList_nil ?_
  refine hK6 _ _ ?_
  clear hK6
  refine wp_seq_k fun K28 hK28 => ?_
  refine cond_f hA rfl ?_
  refine wp_exit ?_
  refine then_exit ?_
  replace hH := HS.unfold [_] hNR5 hH
  refine then_exit ?_
  refine exit_here ?_
  refine hK3 _ _ ?_
  clear hK3
  replace hA := hA.s5 6 5 4 3 2
  refine wp_seq_k fun K29 hK29 => ?_
  refine wp_seq_k fun K30 hK30 => ?_
  refine wp_region_lit ?_
  refine sq hA (q_fld 3 Tryz.underlying45 rfl rfl ti41 rfl) rfl fun a hA => ?_
  refine sq hA (q_loadB hH 1 rfl (List.mem_singleton.2 rfl) Tryz.underlying41 rfl rfl rfl) rfl fun a hA => ?_
  refine sq hA (q_len Tryz.underlying41 rfl (Rd.shp htv)) rfl fun a hA => ?_
  refine sq hA (q_gtrI (n := 100) rfl rfl) rfl fun a hA => ?_
  refine hA.spl (fun hs35 hA => ?_) (fun hs35 hA => ?_)
  ·skip
   refine mv hA fun a hA => ?_
   refine gs hA rfl rfl rfl rfl fun a hA => ?_
   refine gs hA rfl rfl rfl rfl fun a hA => ?_
   refine gs hA rfl rfl rfl rfl fun a hA => ?_
   refine gs hA rfl rfl rfl rfl fun a hA => ?_
   refine sq hA (q_pick_t rfl rfl) rfl fun a hA => ?_
   refine wpList_nil ?_
   refine hK30 _ _ ?_
   clear hK30
   replace hA := hA.s6 41 6 5 4 3 2
   refine cond_t hA rfl ?_
   refine wp_seq_k fun K31 hK31 => ?_
   refine wp_region_lit ?_
   refine asg hA fun a hA => ?_
   refine asg hA fun a hA => ?_
   refine wpList_nil ?_
   refine hK31 _ _ ?_
   clear hK31
   replace hA := hA.s5 5 4 6 3 2
   refine wp_ret ?_
   refine then_ret ?_
   refine post_ret hA (res_2 rfl hA rfl rfl) ?_
   replace hH := hH.pick [] (Hs' := []) rfl
   exact ⟨_, rfl, nilV, [], by rw [encO_bad (by unfold MayO; omega)]; rfl, by rw [encO_bad (by unfold MayO; omega)]; exact Ow.nil B8 _, hH.nilFront⟩
  ·skip
   refine mv hA fun a hA => ?_
   refine gq hA rfl rfl (q_fld 4 Tryz.underlying45 rfl rfl ti41 rfl) rfl fun a hA => ?_
   refine gq hA rfl rfl (q_loadB hH 1 rfl (List.mem_singleton.2 rfl) Tryz.underlying41 rfl rfl rfl) rfl fun a hA => ?_
   refine gq hA rfl rfl (q_len Tryz.underlying41 rfl (Rd.shp hpv)) rfl fun a hA => ?_
   refine gq hA rfl rfl (q_gtrI (n := 64) rfl rfl) rfl fun a hA => ?_
   refine hA.spl (fun hs40 hA => ?_) (fun hs40 hA => ?_)
   ·skip
    refine sq hA (q_pick_f rfl rfl) rfl fun a hA => ?_
    refine wpList_nil ?_
    refine hK30 _ _ ?_
    clear hK30
    replace hA := hA.s6 41 6 5 4 3 2
    refine cond_t hA rfl ?_
    refine wp_seq_k fun K32 hK32 => ?_
    refine wp_region_lit ?_
    refine asg hA fun a hA => ?_
    refine asg hA fun a hA => ?_
    refine wpList_nil ?_
    refine hK32 _ _ ?_
    clear hK32
    replace hA := hA.s5 5 4 6 3 2
    refine wp_ret ?_
    refine then_ret ?_
    refine post_ret hA (res_2 rfl hA rfl rfl) ?_
    replace hH := hH.pick [] (Hs' := []) rfl
    exact ⟨_, rfl, nilV, [], by rw [encO_bad (by unfold MayO; omega)]; rfl, by rw [encO_bad (by unfold MayO; omega)]; exact Ow.nil B8 _, hH.nilFront⟩
   ·skip
    refine sq hA (q_pick_f rfl rfl) rfl fun a hA => ?_
    refine wpList_nil ?_
    refine hK30 _ _ ?_
    clear hK30
    replace hA := hA.s6 41 6 5 4 3 2
    refine cond_f hA rfl ?_
    refine wp_skip ?_
    refine hK29 _ _ ?_
    clear hK29
    replace hA := hA.s5 6 5 4 3 2
    refine wp_seq_k fun K33 hK33 => ?_
    refine any_goI mixed [1, 2] (Hs' := [_, _]) rfl (fun _ => true) hH ?_
    clear hH; intro w hH hS
    refine any_l 10 ?_
    refine p0 hA 0 1 rfl (fun w => (q_move rfl)) fun a hA => ?_
    refine p0 hA 1 3 rfl (fun w => (q_fld 3 Tryz.underlying45 rfl rfl ti41 rfl)) fun a hA => ?_
    refine r0 hA 2 7 rfl hS (fun w hH => (q_loadB hH 0 rfl (List.mem_singleton.2 rfl) Tryz.underlying41 rfl rfl rfl)) fun a hA => ?_
    refine p0 hA 5 39 rfl (fun w => (q_fld 4 Tryz.underlying45 rfl rfl ti41 rfl)) fun a hA => ?_
    refine r0 hA 6 103 rfl hS (fun w hH => (q_loadB hH 0 rfl (List.mem_singleton.2 rfl) Tryz.underlying41 rfl rfl rfl)) fun a hA => ?_
    refine a1 hA 3 111 rfl (lo_call fn41 rfl (wtext_any _ _ (hH.rd htv) (by first | omega | (simp; done) | (simp; omega)))) ?_
    rintro _ w ⟨v_t45, N_t45, rfl, hO_t45, hC⟩
    replace hH := HS.call0 hH hC
    clear hC
    replace hS := hH.pick [2, 3] (Hs' := [_, _]) rfl
    refine ⟨fun _ _ => hS, ?_⟩
    intro a hA
    have hw0 := wtext_len9 hlT
    have hw1 := wtext_len9 hlP
    replace hH := hH.pick [1, 0, 2, 3] (Hs' := [_, _, _, _]) rfl
    refine a1 hA 4 127 rfl (lo_appm hH Tryz.underlying41 Tryz.underlying41 (.inl rfl) ti5 rfl rfl rfl hO_o (Rd.src (Own.rd0 hO_t45 hH 1 rfl)) (one_B8 _) (by first | omega | (simp only [List.length_append, List.length_cons, List.length_nil]; omega)) (by first | omega | (simp only [List.length_append, List.length_cons, List.length_nil]; omega))) ?_
    clear hH; rintro v_t46 w ⟨N_t46, hO_t46, hH⟩
    replace hS := hH.pick [2, 3] (Hs' := [_, _]) rfl
    refine ⟨fun _ _ => hS, ?_⟩
    intro a hA
    refine a1 hA 7 255 rfl (lo_call fn41 rfl (wtext_any _ _ (hH.rd hpv) (by first | omega | (simp; done) | (simp; omega)))) ?_
    rintro _ w ⟨v_t49, N_t49, rfl, hO_t49, hC⟩
    replace hH := HS.call0 hH hC
    clear hC
    replace hS := hH.pick [3, 4] (Hs' := [_, _]) rfl
    refine ⟨fun _ _ => hS, ?_⟩
    intro a hA
    replace hH := hH.pick [1, 0, 2, 3, 4] (Hs' := [_, _, _, _, _]) rfl
    refine a1 hA 8 511 rfl (lo_appm hH Tryz.underlying41 Tryz.underlying41 (.inl rfl) ti5 rfl rfl rfl hO_t46 (Rd.src (Own.rd0 hO_t49 hH 1 rfl)) (one_B8 _) (by first | omega | (simp only [List.length_append, List.length_cons, List.length_nil]; omega)) (by first | omega | (simp only [List.length_append, List.length_cons, List.length_nil]; omega))) ?_
    clear hH; rintro v_t50 w ⟨N_t50, hO_t50, hH⟩
    replace hS := hH.pick [3, 4] (Hs' := [_, _]) rfl
    refine ⟨fun _ _ => hS, ?_⟩
    intro a hA
    refine p0 hA 9 1023 rfl (fun w => (q_assign rfl)) fun a hA => ?_
    refine a_end (by kernel_rfl) ?_ _
    refine hK33 _ _ ?_
    clear hK33
    replace hA := hA.s5 6 5 4 3 2
    refine wp_seq_k fun K34 hK34 => ?_
    refine wp_region_lit ?_
    refine mv hA fun a hA => ?_
    refine sq hA (q_fld 5 Tryz.underlying45 rfl rfl ti25 rfl) rfl fun a hA => ?_
    refine sq hA (q_sliceAt Tryz.underlying25 ti5 rfl) rfl fun a hA => ?_
    refine sl hA (lo_appm hH Tryz.underlying41 Tryz.underlying41 (.inl rfl) ti5 rfl rfl rfl hO_t50 (Rd.src (HS.bySub hH 3 5 rfl 32 hnn (ordC_n hnn))) (one_B8 _) (by first | omega | (simp only [List.length_append]; omega)) (by first | omega | (simp only [List.length_append]; omega))) rfl ?_
    clear hH; rintro v_t54 w ⟨N_t54, hO_t54, hH⟩ a hA
    replace hO_t54 : Ow B8 5 v_t54 (bodyO jj.toNat aa.toNat ii.toNat T Pl nn) N_t54 := hO_t54
    have hbl := bodyO_len (j := jj.toNat) (a := aa.toNat) (i := ii.toNat) (T := T) (P := Pl) (n := nn) (by omega) (by omega) (by omega) hlT hlP hnn
    refine asg hA fun a hA => ?_
    refine wpList_nil ?_
    refine hK34 _ _ ?_
    clear hK34
    replace hA := hA.s4 6 5 4 2
    refine wp_seq_k fun K35 hK35 => ?_
    refine wp_region_lit ?_
    refine sq hA (q_sliceAll Tryz.underlying25 ti5 rfl) rfl fun a hA => ?_
    refine mv hA fun a hA => ?_
    refine sl hA (lo_call fn42 rfl (mac_any (hg.mono0 hH) _ _ _ _ (HS.byB hH 4 rfl (by first | assumption | (rw [List.length_map]; assumption) | rfl | exact sha_length _ | (simp; done) | (simp [*]; done) | omega)) (Own.rd0 hO_t54 hH 0 rfl) (by first | omega | (simp; done) | (simp; omega)) (by first | omega | (simp; done) | (simp; omega)))) rfl ?_
    rintro _ w ⟨rfl, hC⟩ a hA
    replace hH := HS.call0 hH hC
    clear hC
    refine sl hA (lo_allocA hH ti25) rfl ?_
    clear hH; rintro _ w ⟨b_t9, rfl, hH⟩ a hA
    refine s0 hA (lo_storeAm hH ti25 rfl rfl (by first | assumption | (rw [List.length_map]; assumption) | rfl | exact sha_length _ | (simp; done) | (simp [*]; done) | omega) (by first | assumption | (rw [List.length_map]; assumption) | rfl | exact sha_length _ | (simp; done) | (simp [*]; done) | omega) (one_B8 _)) ?_
    clear hH; rintro _ w hH
    refine wpList_nil ?_
    refine hK35 _ _ ?_
    clear hK35
    replace hA := hA.s4 9 6 5 4
    refine wp_seq_k fun K36 hK36 => ?_
    refine wp_region_lit ?_
    refine mv hA fun a hA => ?_
    refine sq hA (q_sliceAll Tryz.underlying25 ti5 rfl) rfl fun a hA => ?_
    replace hH := hH.pick [1, 0, 2, 3, 4, 5] (Hs' := [_, _, _, _, _, _]) rfl
    refine sl hA (lo_appm hH Tryz.underlying41 Tryz.underlying41 (.inl rfl) ti5 rfl rfl rfl hO_t54 (Rd.src (HS.byB hH 1 rfl (macV_length _ _))) (one_B8 _) (by first | omega | (simp only [List.length_append, macV_length]; omega)) (by first | omega | (simp only [List.length_append, macV_length]; omega))) rfl ?_
    clear hH; rintro v_t60 w ⟨N_t60, hO_t60, hH⟩ a hA
    refine asg hA fun a hA => ?_
    refine asg hA fun a hA => ?_
    refine wpList_nil ?_
    refine hK36 _ _ ?_
    clear hK36
    replace hA := hA.s2 5 4
    refine wp_ret ?_
    refine post_ret hA (res_2 rfl hA rfl rfl) ?_
    replace hH := hH.pick [0] (Hs' := [_]) rfl
    have hM : MayO jj aa ii T Pl := by unfold MayO; omega
    exact ⟨_, rfl, v_t60, N_t60, by rw [encO_ok hM]; rfl, by rw [encO_ok hM]; exact hO_t60, hH⟩

end Go.Proofs.YtnnkgdijaekcfaaGreatDoor
