/- Layer 4 (wire): counts and texts that are read. -/
import Derived.Test.YthhdilafnfcpbaaDoorEc
import Derived.Test.YthhdilafnfcpbaaDoorMzc
namespace Go.Proofs.YthhdilafnfcpbaaDoor
open Go
set_option linter.unusedVariables false
set_option linter.unusedSimpArgs false
set_option maxRecDepth 100000

theorem cnt_any {w0 : World} (b_r : Nat) (v : Value) (l : Bs) (k : Nat) (hB : By [b_r] w0 v l) (hk : k ≤ l.length) (hl : l.length ≤ 1048576) (most : Int) (hmost : most ≤ 9223372036854775807) (hH : HS [b_r] w0 w0 [[(b_r, Obj.cells [v, I (k), I (0)].toArray 108 (0, 0))]]) :
    Calls Tryd.prog 78 #[(.pointer (some ⟨b_r, 0, none⟩)), I most, I k] w0 (Ret fun r w' => ∃ k', r = U64 (rNum 18446744073709551615 (l.drop k, 0)).1 ∧ k' ≤ l.length ∧ l.drop k' = (cntV most (l.drop k) (rNum 18446744073709551615 (l.drop k, 0))).1 ∧ HS [b_r] w0 w' [[(b_r, Obj.cells [v, I (k'), I ((cntV most (l.drop k) (rNum 18446744073709551615 (l.drop k, 0))).2)].toArray 108 (0, 0))]]) := by
 refine start (n := 29) (E := [(0, _), (1, _), (2, _)]) Tryd.func78 rfl rfl rfl (args_look rfl) ?_
 intro a hA
 obtain ⟨Q, hQ⟩ : ∃ Q, Q = (rNum 18446744073709551615 (l.drop k, 0)) := ⟨_, rfl⟩
 refine wp_seq_k fun K1 hK1 => ?_
 refine wp_region_lit ?_
 refine asg hA fun a hA => ?_
 refine wpList_nil ?_
 refine hK1 _ _ ?_
 clear hK1
 refine wp_seq_k fun K2 hK2 => ?_
 refine wp_region_lit ?_
 refine mv hA fun a hA => ?_
 refine sl hA (lo_call fn53 rfl (rnum_any _ _ _ _ _ (HS.rdM (Ns1 := [_]) hH hB) (by omega) hl 18446744073709551615#64 18446744073709551615 (by decide) (HS.handed (Ns1 := [_]) hH))) rfl ?_
 rintro _ w ⟨k_t9, rfl, hk_t9, hd_t9, hC⟩ a hA
 replace hH := HS.call (Ns1 := [_]) hH hC
 clear hC
 rw [← hQ] at hA hH hd_t9
 refine asg hA fun a hA => ?_
 refine wpList_nil ?_
 refine hK2 _ _ ?_
 clear hK2
 replace hA := hA.s5 7 6 0 1 2
 refine wp_seq_k fun K3 hK3 => ?_
 refine wp_seq_k fun K4 hK4 => ?_
 refine wp_region_lit ?_
 refine mv hA fun a hA => ?_
 refine sq hA (q_nilCheck rfl) rfl fun a hA => ?_
 refine sq hA (q_fld 2 Tryd.underlying108 rfl rfl ti28 rfl) rfl fun a hA => ?_
 refine sq hA (q_loadB hH 0 rfl (List.mem_singleton.2 rfl) Tryd.underlying28 rfl rfl rfl) rfl fun a hA => ?_
 refine sq hA (q_eqlI (n := 0) rfl rfl) rfl fun a hA => ?_
 refine hA.spl (fun hs14 hA => ?_) (fun hs14 hA => ?_)
 ·skip
  refine mv hA fun a hA => ?_
  refine gq hA rfl rfl (q_move rfl) rfl fun a hA => ?_
  refine gq hA rfl rfl (q_lssI (n := 0) rfl rfl) rfl fun a hA => ?_
  refine hA.spl (fun hs17 hA => ?_) (fun hs17 hA => ?_)
  ·skip
   refine gq hA rfl rfl (q_move rfl) rfl fun a hA => ?_
   refine gs hA rfl rfl rfl rfl fun a hA => ?_
   refine gs hA rfl rfl rfl rfl fun a hA => ?_
   refine gs hA rfl rfl rfl rfl fun a hA => ?_
   refine gs hA rfl rfl rfl rfl fun a hA => ?_
   refine gq hA rfl rfl (q_pick_t rfl rfl) rfl fun a hA => ?_
   refine sq hA (q_pick_t rfl rfl) rfl fun a hA => ?_
   refine wpList_nil ?_
   refine hK4 _ _ ?_
   clear hK4
   replace hA := hA.s5 24 7 6 0 2
   refine cond_t hA rfl ?_
   refine wp_region_lit ?_
   refine mv hA fun a hA => ?_
   refine mv hA fun a hA => ?_
   refine sl hA (lo_call fn72 rfl (fails_any _ _ _ _ _ (HS.rdM (Ns1 := [_]) hH hB) (by omega) hl _ _ (HS.handed (Ns1 := [_]) hH))) rfl ?_
   rintro _ w ⟨rfl, hC⟩ a hA
   replace hH := HS.call (Ns1 := [_]) hH hC
   clear hC
   refine wpList_nil ?_
   refine hK3 _ _ ?_
   clear hK3
   replace hA := hA.s2 7 6
   refine wp_seq_k fun K5 hK5 => ?_
   refine wp_region_lit ?_
   refine mv hA fun a hA => ?_
   refine asg hA fun a hA => ?_
   refine wpList_nil ?_
   refine hK5 _ _ ?_
   clear hK5
   replace hA := hA.s1 6
   refine wp_ret ?_
   refine post_ret hA (res_1 rfl hA rfl) ?_
   refine ⟨_, rfl, ?_⟩
   rw [← hQ]
   first | exact ⟨k, rfl, hk, by rw [cntV_t (by omega) (by omega)], by rw [cntV_t (by omega) (by omega)]; exact hH⟩ | exact ⟨k_t9, rfl, hk_t9, by rw [cntV_f (by omega)]; exact hd_t9, by rw [cntV_f (by omega)]; exact hH⟩
  ·skip
   refine gq hA rfl rfl (q_move rfl) rfl fun a hA => ?_
   refine gq hA rfl rfl (q_move rfl) rfl fun a hA => ?_
   refine gq hA rfl rfl (q_move rfl) rfl fun a hA => ?_
   refine gq hA rfl rfl (q_cvI64 Tryd.underlying3 Tryd.underlying91 rfl) rfl fun a hA => ?_
   refine gq hA rfl rfl (q_gtr64 rfl rfl) rfl fun a hA => ?_
   refine hA.spl (fun hs22 hA => ?_) (fun hs22 hA => ?_)
   ·skip
    rw [toNat_ofIntN (by omega)] at hs22
    refine gq hA rfl rfl (q_pick_f rfl rfl) rfl fun a hA => ?_
    refine sq hA (q_pick_t rfl rfl) rfl fun a hA => ?_
    refine wpList_nil ?_
    refine hK4 _ _ ?_
    clear hK4
    replace hA := hA.s5 24 7 6 0 2
    refine cond_t hA rfl ?_
    refine wp_region_lit ?_
    refine mv hA fun a hA => ?_
    refine mv hA fun a hA => ?_
    refine sl hA (lo_call fn72 rfl (fails_any _ _ _ _ _ (HS.rdM (Ns1 := [_]) hH hB) (by omega) hl _ _ (HS.handed (Ns1 := [_]) hH))) rfl ?_
    rintro _ w ⟨rfl, hC⟩ a hA
    replace hH := HS.call (Ns1 := [_]) hH hC
    clear hC
    refine wpList_nil ?_
    refine hK3 _ _ ?_
    clear hK3
    replace hA := hA.s2 7 6
    refine wp_seq_k fun K6 hK6 => ?_
    refine wp_region_lit ?_
    refine mv hA fun a hA => ?_
    refine asg hA fun a hA => ?_
    refine wpList_nil ?_
    refine hK6 _ _ ?_
    clear hK6
    replace hA := hA.s1 6
    refine wp_ret ?_
    refine post_ret hA (res_1 rfl hA rfl) ?_
    refine ⟨_, rfl, ?_⟩
    rw [← hQ]
    first | exact ⟨k, rfl, hk, by rw [cntV_t (by omega) (by omega)], by rw [cntV_t (by omega) (by omega)]; exact hH⟩ | exact ⟨k_t9, rfl, hk_t9, by rw [cntV_f (by omega)]; exact hd_t9, by rw [cntV_f (by omega)]; exact hH⟩
   ·skip
    rw [toNat_ofIntN (by omega)] at hs22
    refine gq hA rfl rfl (q_pick_f rfl rfl) rfl fun a hA => ?_
    refine sq hA (q_pick_t rfl rfl) rfl fun a hA => ?_
    refine wpList_nil ?_
    refine hK4 _ _ ?_
    clear hK4
    replace hA := hA.s5 24 7 6 0 2
    refine cond_f hA rfl ?_
    refine wp_skip ?_
    refine hK3 _ _ ?_
    clear hK3
    replace hA := hA.s2 7 6
    refine wp_seq_k fun K7 hK7 => ?_
    refine wp_region_lit ?_
    refine mv hA fun a hA => ?_
    refine asg hA fun a hA => ?_
    refine wpList_nil ?_
    refine hK7 _ _ ?_
    clear hK7
    replace hA := hA.s1 6
    refine wp_ret ?_
    refine post_ret hA (res_1 rfl hA rfl) ?_
    refine ⟨_, rfl, ?_⟩
    rw [← hQ]
    first | exact ⟨k, rfl, hk, by rw [cntV_t (by omega) (by omega)], by rw [cntV_t (by omega) (by omega)]; exact hH⟩ | exact ⟨k_t9, rfl, hk_t9, by rw [cntV_f (by omega)]; exact hd_t9, by rw [cntV_f (by omega)]; exact hH⟩
 ·skip
  refine mv hA fun a hA => ?_
  refine gs hA rfl rfl rfl rfl fun a hA => ?_
  refine gs hA rfl rfl rfl rfl fun a hA => ?_
  refine gsU hA rfl rfl rfl rfl fun a hA => ?_
  refine gs0U hA rfl rfl rfl fun a hA => ?_
  refine gs0U hA rfl rfl rfl fun a hA => ?_
  refine gs0U hA rfl rfl rfl fun a hA => ?_
  refine gs0U hA rfl rfl rfl fun a hA => ?_
  refine gs hA rfl rfl rfl rfl fun a hA => ?_
  refine sq hA (q_pick_f rfl rfl) rfl fun a hA => ?_
  refine wpList_nil ?_
  refine hK4 _ _ ?_
  clear hK4
  replace hA := hA.s5 24 7 6 0 2
  refine cond_f hA rfl ?_
  refine wp_skip ?_
  refine hK3 _ _ ?_
  clear hK3
  replace hA := hA.s2 7 6
  refine wp_seq_k fun K8 hK8 => ?_
  refine wp_region_lit ?_
  refine mv hA fun a hA => ?_
  refine asg hA fun a hA => ?_
  refine wpList_nil ?_
  refine hK8 _ _ ?_
  clear hK8
  replace hA := hA.s1 6
  refine wp_ret ?_
  refine post_ret hA (res_1 rfl hA rfl) ?_
  refine ⟨_, rfl, ?_⟩
  rw [← hQ]
  first | exact ⟨k, rfl, hk, by rw [cntV_t (by omega) (by omega)], by rw [cntV_t (by omega) (by omega)]; exact hH⟩ | exact ⟨k_t9, rfl, hk_t9, by rw [cntV_f (by omega)]; exact hd_t9, by rw [cntV_f (by omega)]; exact hH⟩

theorem rtext_any {w0 : World} (b_r : Nat) (v : Value) (l : Bs) (k e : Nat) (hB : By [b_r] w0 v l) (hk : k ≤ l.length) (hl : l.length ≤ 1048576) (most : Int) (hmost : most ≤ 9223372036854775807) (hH : HS [b_r] w0 w0 [[(b_r, Obj.cells [v, I (k), I (e)].toArray 108 (0, 0))]]) :
    Calls Tryd.prog 58 #[(.pointer (some ⟨b_r, 0, none⟩)), I most] w0 (Ret fun r w' => ∃ k' v' N, v' = r ∧ Ow B8 5 v' (rText most (l.drop k, e)).1 N ∧ k' ≤ l.length ∧ l.drop k' = (rText most (l.drop k, e)).2.1 ∧ HS [b_r] w0 w' [[(b_r, Obj.cells [v, I (k'), I ((rText most (l.drop k, e)).2.2)].toArray 108 (0, 0))], N]) := by
 refine start (n := 35) (E := [(0, _), (1, _)]) Tryd.func58 rfl rfl rfl (args_look rfl) ?_
 intro a hA
 obtain ⟨Q, hQ⟩ : ∃ Q, Q = (rNum 18446744073709551615 (l.drop k, 0)) := ⟨_, rfl⟩
 refine wp_seq_k fun K1 hK1 => ?_
 refine wp_region_lit ?_
 refine asg hA fun a hA => ?_
 refine wpList_nil ?_
 refine hK1 _ _ ?_
 clear hK1
 refine wp_seq_k fun K2 hK2 => ?_
 refine wp_seq_k fun K3 hK3 => ?_
 refine wp_region_lit ?_
 refine mv hA fun a hA => ?_
 refine sl hA (lo_call fn71 rfl (off_any _ _ _ _ _ (HS.rdM (Ns1 := [_]) hH hB) (by omega) hl (HS.handed (Ns1 := [_]) hH))) rfl ?_
 rintro _ w ⟨rfl, hC⟩ a hA
 replace hH := HS.call (Ns1 := [_]) hH hC
 clear hC
 refine wpList_nil ?_
 refine hK3 _ _ ?_
 clear hK3
 replace hA := hA.s4 10 4 0 1
 refine cond_d hA rfl (fun hc10 => ?_) (fun hc10 => ?_)
 ·skip
  have hR := rText_off (most := most) (X := l.drop k) hc10
  refine wp_seq_k fun K4 hK4 => ?_
  refine wp_region_lit ?_
  refine asg hA fun a hA => ?_
  refine wpList_nil ?_
  refine hK4 _ _ ?_
  clear hK4
  replace hA := hA.s3 4 0 1
  refine wp_ret ?_
  refine then_ret ?_
  refine post_ret hA (res_1 rfl hA rfl) ?_
  refine ⟨_, rfl, ?_⟩
  rw [hR]
  first | exact ⟨k, _, [], rfl, Ow.nil B8 _, hk, rfl, HS.nil2 hH⟩ | exact ⟨k_t18, _, [], rfl, Ow.nil B8 _, hk_t18, hd_t18, HS.nil2 hH⟩
 ·skip
  obtain rfl : e = 0 := by omega
  refine wp_skip ?_
  refine hK2 _ _ ?_
  clear hK2
  replace hA := hA.s3 4 0 1
  refine wp_seq_k fun K5 hK5 => ?_
  refine wp_region_lit ?_
  refine mv hA fun a hA => ?_
  refine sq hA (q_nilCheck rfl) rfl fun a hA => ?_
  refine sq hA (q_fld 1 Tryd.underlying108 rfl rfl ti3 rfl) rfl fun a hA => ?_
  refine sq hA (q_loadB hH 0 rfl (List.mem_singleton.2 rfl) Tryd.underlying3 rfl rfl rfl) rfl fun a hA => ?_
  refine asg hA fun a hA => ?_
  refine wpList_nil ?_
  refine hK5 _ _ ?_
  clear hK5
  replace hA := hA.s4 5 4 0 1
  refine wp_seq_k fun K6 hK6 => ?_
  refine wp_region_lit ?_
  refine mv hA fun a hA => ?_
  refine mv hA fun a hA => ?_
  refine mv hA fun a hA => ?_
  refine sl hA (lo_call fn78 rfl (cnt_any _ _ _ _ (HS.rdM (Ns1 := [_]) hH hB) (by omega) hl _ hmost (HS.handed (Ns1 := [_]) hH))) rfl ?_
  rintro _ w ⟨k_t18, rfl, hk_t18, hd_t18, hC⟩ a hA
  replace hH := HS.call (Ns1 := [_]) hH hC
  clear hC
  rw [← hQ] at hA hH hd_t18
  refine asg hA fun a hA => ?_
  refine wpList_nil ?_
  refine hK6 _ _ ?_
  clear hK6
  replace hA := hA.s4 6 5 4 0
  refine wp_seq_k fun K7 hK7 => ?_
  refine wp_seq_k fun K8 hK8 => ?_
  refine wp_region_lit ?_
  refine mv hA fun a hA => ?_
  refine sl hA (lo_call fn71 rfl (off_any _ _ _ _ _ (HS.rdM (Ns1 := [_]) hH hB) (by omega) hl (HS.handed (Ns1 := [_]) hH))) rfl ?_
  rintro _ w ⟨rfl, hC⟩ a hA
  replace hH := HS.call (Ns1 := [_]) hH hC
  clear hC
  refine wpList_nil ?_
  refine hK8 _ _ ?_
  clear hK8
  replace hA := hA.s5 20 6 5 4 0
  refine cond_d hA rfl (fun hc20 => ?_) (fun hc20 => ?_)
  ·skip
   have hR := rText_c hQ hc20
   refine wp_seq_k fun K9 hK9 => ?_
   refine wp_region_lit ?_
   refine asg hA fun a hA => ?_
   refine wpList_nil ?_
   refine hK9 _ _ ?_
   clear hK9
   replace hA := hA.s4 4 6 5 0
   refine wp_ret ?_
   refine then_ret ?_
   refine post_ret hA (res_1 rfl hA rfl) ?_
   refine ⟨_, rfl, ?_⟩
   rw [hR]
   first | exact ⟨k, _, [], rfl, Ow.nil B8 _, hk, rfl, HS.nil2 hH⟩ | exact ⟨k_t18, _, [], rfl, Ow.nil B8 _, hk_t18, hd_t18, HS.nil2 hH⟩
  ·skip
   have hz : (cntV most (l.drop k) Q).2 = 0 := by omega
   obtain ⟨hz1, hz2, hz3⟩ := cntV_z hz
   rw [hz3] at hH hd_t18
   have hlq := congrArg List.length hd_t18
   rw [List.length_drop] at hlq
   refine wp_skip ?_
   refine hK7 _ _ ?_
   clear hK7
   replace hA := hA.s4 6 5 4 0
   refine wp_seq_k fun K10 hK10 => ?_
   refine wp_region_lit ?_
   refine mv hA fun a hA => ?_
   refine mv hA fun a hA => ?_
   refine sl hA (lo_call fn73 rfl (take_any _ _ _ _ _ (HS.rdM (Ns1 := [_]) hH hB) (by omega) hl _ Q.1.toNat rfl (HS.handed (Ns1 := [_]) hH))) rfl ?_
   rintro _ w ⟨v_t24, rfl, hT_t24, hC⟩ a hA
   replace hH := HS.call (Ns1 := [_]) hH hC
   clear hC
   refine mv hA fun a hA => ?_
   refine sq hA (q_extract rfl rfl) rfl fun a hA => ?_
   refine sq hA (q_extract rfl rfl) rfl fun a hA => ?_
   refine hA.spl (fun hs26 hA => ?_) (fun hs26 hA => ?_)
   ·skip
    have eL := takeL_ok (l := l) (k := k_t18) (n := Q.1.toNat) hs26
    rw [takeA_ok hs26] at hH
    simp only [eL] at hT_t24
    have hR := rText_o hQ hz (by omega)
    refine asg hA fun a hA => ?_
    refine asg hA fun a hA => ?_
    refine wpList_nil ?_
    refine hK10 _ _ ?_
    clear hK10
    replace hA := hA.s5 8 7 5 4 0
    refine wp_seq_k fun K11 hK11 => ?_
    refine wp_seq_k fun K12 hK12 => ?_
    refine wp_region_lit ?_
    refine mv hA fun a hA => ?_
    refine sq hA (q_not rfl) rfl fun a hA => ?_
    refine wpList_nil ?_
    refine hK12 _ _ ?_
    clear hK12
    replace hA := hA.s5 28 7 5 4 0
    refine cond_f hA rfl ?_
    refine wp_skip ?_
    refine hK11 _ _ ?_
    clear hK11
    replace hA := hA.s2 7 4
    refine wp_seq_k fun K13 hK13 => ?_
    refine wp_region_lit ?_
    refine sl hA (lo_bs (f := B8) (e := 5) ([]) hH rfl rfl (fun w => by kernel_rfl)) rfl ?_
    clear hH; rintro v_t32 w ⟨N_t32, hO_t32, hH⟩ a hA
    refine mv hA fun a hA => ?_
    refine sl hA (lo_appm hH Tryd.underlying32 Tryd.underlying32 (.inl rfl) ti5 rfl rfl rfl hO_t32 (Rd.src (hH.rd (hT_t24 _ _ hB))) (one_B8 _) (by first | omega | (simp only [List.length_take, List.length_drop]; omega) | (simp; omega)) (by first | omega | (simp only [List.length_take, List.length_drop]; omega) | (simp; omega))) rfl ?_
    clear hH; rintro v_t34 w ⟨N_t34, hO_t34, hH⟩ a hA
    refine asg hA fun a hA => ?_
    refine wpList_nil ?_
    refine hK13 _ _ ?_
    clear hK13
    replace hA := hA.s1 4
    refine wp_ret ?_
    refine post_ret hA (res_1 rfl hA rfl) ?_
    replace hH := hH.pick [1, 0] (Hs' := [_, _]) rfl
    refine ⟨_, rfl, ?_⟩
    rw [hR]
    exact ⟨k_t18 + Q.1.toNat, _, N_t34, rfl, by simpa [hd_t18] using hO_t34, by omega, by rw [← List.drop_drop, hd_t18], by rw [hz1] at hH; exact hH⟩
   ·skip
    rw [takeA_no hs26] at hH
    have hR := rText_s hQ hz (by omega)
    refine asg hA fun a hA => ?_
    refine asg hA fun a hA => ?_
    refine wpList_nil ?_
    refine hK10 _ _ ?_
    clear hK10
    replace hA := hA.s5 8 7 5 4 0
    refine wp_seq_k fun K14 hK14 => ?_
    refine wp_seq_k fun K15 hK15 => ?_
    refine wp_region_lit ?_
    refine mv hA fun a hA => ?_
    refine sq hA (q_not rfl) rfl fun a hA => ?_
    refine wpList_nil ?_
    refine hK15 _ _ ?_
    clear hK15
    replace hA := hA.s5 28 7 5 4 0
    refine cond_t hA rfl ?_
    refine wp_seq_k fun K16 hK16 => ?_
    refine wp_region_lit ?_
    refine mv hA fun a hA => ?_
    refine mv hA fun a hA => ?_
    refine sl hA (lo_call fn72 rfl (fails_any _ _ _ _ _ (HS.rdM (Ns1 := [_]) hH hB) (by omega) hl _ _ (HS.handed (Ns1 := [_]) hH))) rfl ?_
    rintro _ w ⟨rfl, hC⟩ a hA
    replace hH := HS.call (Ns1 := [_]) hH hC
    clear hC
    refine wpList_nil ?_
    refine hK16 _ _ ?_
    clear hK16
    replace hA := hA.s2 7 4
    refine wp_seq_k fun K17 hK17 => ?_
    refine wp_region_lit ?_
    refine asg hA fun a hA => ?_
    refine wpList_nil ?_
    refine hK17 _ _ ?_
    clear hK17
    refine wp_ret ?_
    refine then_ret ?_
    refine post_ret hA (res_1 rfl hA rfl) ?_
    refine ⟨_, rfl, ?_⟩
    rw [hR]
    first | exact ⟨k, _, [], rfl, Ow.nil B8 _, hk, rfl, HS.nil2 hH⟩ | exact ⟨k_t18, _, [], rfl, Ow.nil B8 _, hk_t18, hd_t18, HS.nil2 hH⟩

end Go.Proofs.YthhdilafnfcpbaaDoor
