/- Layer 4 (wire): digests, ends, texts that are read. -/
import Derived.Test.YtnnkgdijaekcfaaDoorEb
namespace Go.Proofs.YtnnkgdijaekcfaaDoor
open Go
set_option linter.unusedVariables false
set_option linter.unusedSimpArgs false
set_option maxRecDepth 100000

theorem rdig_any {w0 : World} (b_r : Nat) (v : Value) (l : Bs) (k e : Nat) (hB : By [b_r] w0 v l) (hk : k ≤ l.length) (hl : l.length ≤ 1048576) (hH : HS [b_r] w0 w0 [[(b_r, Obj.cells [v, I (k), I (e)].toArray 167 (0, 0))]]) :
    Calls Tryd.prog 86 #[(.pointer (some ⟨b_r, 0, none⟩))] w0 (Ret fun r w' => ∃ k', r = .agg ((rDig (l.drop k, e)).1.map B8).toArray ∧ k' ≤ l.length ∧ l.drop k' = (rDig (l.drop k, e)).2.1 ∧ HS [b_r] w0 w' [[(b_r, Obj.cells [v, I (k'), I ((rDig (l.drop k, e)).2.2)].toArray 167 (0, 0))]]) := by
 refine start (n := 27) (E := [(0, _)]) Tryd.func86 rfl rfl rfl (args_look rfl) ?_
 intro a hA
 refine wp_seq_k fun K1 hK1 => ?_
 refine wp_region_lit ?_
 refine sl hA (lo_allocA hH ti24) rfl ?_
 clear hH; rintro _ w ⟨b_t2, rfl, hH⟩ a hA
 refine wpList_nil ?_
 refine hK1 _ _ ?_
 clear hK1
 refine wp_seq_k fun K2 hK2 => ?_
 refine wp_region_lit ?_
 refine sl hA (lo_allocA hH ti24) rfl ?_
 clear hH; rintro _ w ⟨b_t3, rfl, hH⟩ a hA
 refine wpList_nil ?_
 refine hK2 _ _ ?_
 clear hK2
 refine wp_seq_k fun K3 hK3 => ?_
 refine wp_seq_k fun K4 hK4 => ?_
 refine wp_region_lit ?_
 refine mv hA fun a hA => ?_
 replace hH := hH.pick [2, 0, 1] (Hs' := [_, _, _]) rfl
 refine sl hA (lo_call fn113 rfl (off_any _ _ _ _ _ (HS.rdM (Ns1 := [_]) hH hB) (by omega) hl (HS.handed (Ns1 := [_]) hH))) rfl ?_
 rintro _ w ⟨rfl, hC⟩ a hA
 replace hH := HS.call (Ns1 := [_]) hH hC
 clear hC
 refine wpList_nil ?_
 refine hK4 _ _ ?_
 clear hK4
 replace hA := hA.s4 7 3 2 0
 refine cond_d hA rfl (fun hc7 => ?_) (fun hc7 => ?_)
 ·skip
  have hR := rDig_off (X := l.drop k) hc7
  refine wp_seq_k fun K5 hK5 => ?_
  refine wp_region_lit ?_
  refine sq hA (q_loadW hH 1 rfl Tryd.underlying24 rfl ti24 rfl (by first | omega | (simp; done) | (simp; omega) | (rw [List.length_map]; assumption) | assumption | rfl | (simp [*]; done) | (simp [*]; omega))) rfl fun a hA => ?_
  replace hH := hH.pick [2, 0, 1] (Hs' := [_, _, _]) rfl
  refine s0 hA (lo_storeAm hH ti24 rfl rfl (by first | rfl | (simp; done) | (rw [List.length_map]; assumption) | (simp [*]; done)) (by first | rfl | (simp; done) | (rw [List.length_map]; assumption) | (simp [*]; done)) (one_B8 _)) ?_
  clear hH; rintro _ w hH
  refine wpList_nil ?_
  refine hK5 _ _ ?_
  clear hK5
  replace hA := hA.s3 3 2 0
  refine wp_ret ?_
  refine then_ret ?_
  refine post_ret hA (res_c rfl hA rfl (resW hH 0 rfl Tryd.underlying24 rfl ti24 (by first | rfl | (simp; done) | (rw [List.length_map]; assumption)))) ?_
  replace hH := hH.pick [1, 0, 2] (Hs' := [_, _, _]) rfl
  replace hH := hH.pick [0] (Hs' := [_]) rfl
  refine ⟨_, rfl, ?_⟩
  rw [hR]
  first | exact ⟨k, rfl, hk, rfl, hH⟩ | exact ⟨_, rfl, by omega, by rw [List.drop_drop], hH⟩
 ·skip
  obtain rfl : e = 0 := by omega
  refine wp_skip ?_
  refine hK3 _ _ ?_
  clear hK3
  replace hA := hA.s3 3 2 0
  refine wp_seq_k fun K6 hK6 => ?_
  refine wp_region_lit ?_
  refine mv hA fun a hA => ?_
  refine sl hA (lo_call fn115 rfl (take_any _ _ _ _ _ (HS.rdM (Ns1 := [_]) hH hB) (by omega) hl 32#64 32 (by decide) (HS.handed (Ns1 := [_]) hH))) rfl ?_
  rintro _ w ⟨v_t11, rfl, hT_t11, hC⟩ a hA
  replace hH := HS.call (Ns1 := [_]) hH hC
  clear hC
  refine mv hA fun a hA => ?_
  refine sq hA (q_extract rfl rfl) rfl fun a hA => ?_
  refine sq hA (q_extract rfl rfl) rfl fun a hA => ?_
  refine hA.spl (fun hs13 hA => ?_) (fun hs13 hA => ?_)
  ·skip
   have eL := takeL_ok (l := l) (k := k) (n := 32) hs13
   rw [takeA_ok hs13] at hH
   simp only [eL] at hT_t11
   have h32 : ((l.drop k).take 32).length = 32 := by rw [List.length_take, List.length_drop]; omega
   have hR := rDig_ok (X := l.drop k) (by rw [List.length_drop]; omega)
   refine asg hA fun a hA => ?_
   refine asg hA fun a hA => ?_
   refine wpList_nil ?_
   refine hK6 _ _ ?_
   clear hK6
   replace hA := hA.s5 5 4 3 2 0
   refine wp_seq_k fun K7 hK7 => ?_
   refine wp_seq_k fun K8 hK8 => ?_
   refine wp_region_lit ?_
   refine mv hA fun a hA => ?_
   refine sq hA (q_not rfl) rfl fun a hA => ?_
   refine wpList_nil ?_
   refine hK8 _ _ ?_
   clear hK8
   replace hA := hA.s5 15 4 3 2 0
   refine cond_f hA rfl ?_
   refine wp_skip ?_
   refine hK7 _ _ ?_
   clear hK7
   replace hA := hA.s3 4 3 2
   refine wp_seq_k fun K9 hK9 => ?_
   refine wp_region_lit ?_
   refine sq hA (q_sliceAll Tryd.underlying24 ti5 rfl) rfl fun a hA => ?_
   refine mv hA fun a hA => ?_
   replace hH := hH.pick [1, 0, 2] (Hs' := [_, _, _]) rfl
   refine sl hA (lo_copyA (d := .invalid) hH Tryd.underlying22 ti5 rfl rfl (hH.rd (hT_t11 _ _ hB)) (by first | (simp; done) | (simp; omega) | (simp [*]; omega)) (soft0 _) (one_B8 _)) rfl ?_
   clear hH; rintro _ w ⟨rfl, hH⟩ a hA
   rw [show putAt _ 0 _ = ((l.drop k).take 32).map B8 from dig_copy _ h32] at hH
   refine wpList_nil ?_
   refine hK9 _ _ ?_
   clear hK9
   replace hA := hA.s2 3 2
   refine wp_seq_k fun K10 hK10 => ?_
   refine wp_region_lit ?_
   refine sq hA (q_loadW hH 0 rfl Tryd.underlying24 rfl ti24 rfl (by first | omega | (simp; done) | (simp; omega) | (rw [List.length_map]; assumption) | assumption | rfl | (simp [*]; done) | (simp [*]; omega))) rfl fun a hA => ?_
   replace hH := hH.pick [2, 0, 1] (Hs' := [_, _, _]) rfl
   refine s0 hA (lo_storeAm hH ti24 rfl rfl (by first | rfl | (simp; done) | (rw [List.length_map]; assumption) | (simp [*]; done)) (by first | rfl | (simp; done) | (rw [List.length_map]; assumption) | (simp [*]; done)) (one_B8 _)) ?_
   clear hH; rintro _ w hH
   refine wpList_nil ?_
   refine hK10 _ _ ?_
   clear hK10
   replace hA := hA.s1 2
   refine wp_ret ?_
   refine post_ret hA (res_c rfl hA rfl (resW hH 0 rfl Tryd.underlying24 rfl ti24 (by first | rfl | (simp; done) | (rw [List.length_map]; assumption)))) ?_
   replace hH := hH.pick [2, 0, 1] (Hs' := [_, _, _]) rfl
   replace hH := hH.pick [0] (Hs' := [_]) rfl
   refine ⟨_, rfl, ?_⟩
   rw [hR]
   first | exact ⟨k, rfl, hk, rfl, hH⟩ | exact ⟨_, rfl, by omega, by rw [List.drop_drop], hH⟩
  ·skip
   rw [takeA_no hs13] at hH
   have hR := rDig_err (X := l.drop k) (by rw [List.length_drop]; omega)
   refine asg hA fun a hA => ?_
   refine asg hA fun a hA => ?_
   refine wpList_nil ?_
   refine hK6 _ _ ?_
   clear hK6
   replace hA := hA.s5 5 4 3 2 0
   refine wp_seq_k fun K11 hK11 => ?_
   refine wp_seq_k fun K12 hK12 => ?_
   refine wp_region_lit ?_
   refine mv hA fun a hA => ?_
   refine sq hA (q_not rfl) rfl fun a hA => ?_
   refine wpList_nil ?_
   refine hK12 _ _ ?_
   clear hK12
   replace hA := hA.s5 15 4 3 2 0
   refine cond_t hA rfl ?_
   refine wp_seq_k fun K13 hK13 => ?_
   refine wp_region_lit ?_
   refine mv hA fun a hA => ?_
   refine mv hA fun a hA => ?_
   refine sq hA (q_nilCheck rfl) rfl fun a hA => ?_
   refine sq hA (q_fld 1 Tryd.underlying167 rfl rfl ti3 rfl) rfl fun a hA => ?_
   refine sq hA (q_loadB hH 0 rfl (List.mem_singleton.2 rfl) Tryd.underlying3 rfl rfl rfl) rfl fun a hA => ?_
   refine sl hA (lo_call fn116 rfl (fails_any _ _ _ _ _ (HS.rdM (Ns1 := [_]) hH hB) (by omega) hl _ _ (HS.handed (Ns1 := [_]) hH))) rfl ?_
   rintro _ w ⟨rfl, hC⟩ a hA
   replace hH := HS.call (Ns1 := [_]) hH hC
   clear hC
   refine wpList_nil ?_
   refine hK13 _ _ ?_
   clear hK13
   replace hA := hA.s3 4 3 2
   refine wp_seq_k fun K14 hK14 => ?_
   refine wp_region_lit ?_
   refine sq hA (q_loadW hH 1 rfl Tryd.underlying24 rfl ti24 rfl (by first | omega | (simp; done) | (simp; omega) | (rw [List.length_map]; assumption) | assumption | rfl | (simp [*]; done) | (simp [*]; omega))) rfl fun a hA => ?_
   replace hH := hH.pick [2, 0, 1] (Hs' := [_, _, _]) rfl
   refine s0 hA (lo_storeAm hH ti24 rfl rfl (by first | rfl | (simp; done) | (rw [List.length_map]; assumption) | (simp [*]; done)) (by first | rfl | (simp; done) | (rw [List.length_map]; assumption) | (simp [*]; done)) (one_B8 _)) ?_
   clear hH; rintro _ w hH
   refine wpList_nil ?_
   refine hK14 _ _ ?_
   clear hK14
   replace hA := hA.s3 4 3 2
   refine wp_ret ?_
   refine then_ret ?_
   refine post_ret hA (res_c rfl hA rfl (resW hH 0 rfl Tryd.underlying24 rfl ti24 (by first | rfl | (simp; done) | (rw [List.length_map]; assumption)))) ?_
   replace hH := hH.pick [1, 0, 2] (Hs' := [_, _, _]) rfl
   replace hH := hH.pick [0] (Hs' := [_]) rfl
   refine ⟨_, rfl, ?_⟩
   rw [hR]
   first | exact ⟨k, rfl, hk, rfl, hH⟩ | exact ⟨_, rfl, by omega, by rw [List.drop_drop], hH⟩

theorem rend_any {w0 : World} (b_r : Nat) (v : Value) (l : Bs) (k e : Nat) (hB : By [b_r] w0 v l) (hk : k ≤ l.length) (hl : l.length ≤ 1048576) (hH : HS [b_r] w0 w0 [[(b_r, Obj.cells [v, I (k), I (e)].toArray 167 (0, 0))]]) :
    Calls Tryd.prog 75 #[(.pointer (some ⟨b_r, 0, none⟩))] w0 (Ret fun r w' => r = I (rEnd (l.drop k, e)).1 ∧ HS [b_r] w0 w' [[(b_r, Obj.cells [v, I (k), I ((rEnd (l.drop k, e)).1)].toArray 167 (0, 0))]]) := by
 refine start (n := 19) (E := [(0, _)]) Tryd.func75 rfl rfl rfl (args_look rfl) ?_
 intro a hA
 refine wp_seq_k fun K1 hK1 => ?_
 refine wp_region_lit ?_
 refine asg hA fun a hA => ?_
 refine wpList_nil ?_
 refine hK1 _ _ ?_
 clear hK1
 refine wp_seq_k fun K2 hK2 => ?_
 refine wp_seq_k fun K3 hK3 => ?_
 refine wp_region_lit ?_
 refine mv hA fun a hA => ?_
 refine sl hA (lo_call fn113 rfl (off_any _ _ _ _ _ (HS.rdM (Ns1 := [_]) hH hB) (by omega) hl (HS.handed (Ns1 := [_]) hH))) rfl ?_
 rintro _ w ⟨rfl, hC⟩ a hA
 replace hH := HS.call (Ns1 := [_]) hH hC
 clear hC
 refine hA.spl (fun hs4 hA => ?_) (fun hs4 hA => ?_)
 ·skip
  have hR := rEnd_off (X := l.drop k) hs4
  refine sq hA (q_not rfl) rfl fun a hA => ?_
  refine mv hA fun a hA => ?_
  refine gs hA rfl rfl rfl rfl fun a hA => ?_
  refine gs hA rfl rfl rfl rfl fun a hA => ?_
  refine gs hA rfl rfl rfl rfl fun a hA => ?_
  refine sq hA (q_pick_f rfl rfl) rfl fun a hA => ?_
  refine wpList_nil ?_
  refine hK3 _ _ ?_
  clear hK3
  replace hA := hA.s3 10 2 0
  refine cond_f hA rfl ?_
  refine wp_skip ?_
  refine hK2 _ _ ?_
  clear hK2
  replace hA := hA.s2 2 0
  refine wp_seq_k fun K4 hK4 => ?_
  refine wp_region_lit ?_
  refine mv hA fun a hA => ?_
  refine sl hA (lo_call fn118 rfl (err_any _ _ _ _ _ (HS.rdM (Ns1 := [_]) hH hB) (by omega) hl (HS.handed (Ns1 := [_]) hH))) rfl ?_
  rintro _ w ⟨rfl, hC⟩ a hA
  replace hH := HS.call (Ns1 := [_]) hH hC
  clear hC
  refine asg hA fun a hA => ?_
  refine wpList_nil ?_
  refine hK4 _ _ ?_
  clear hK4
  replace hA := hA.s1 2
  refine wp_ret ?_
  refine post_ret hA (res_1 rfl hA rfl) ?_
  refine ⟨_, rfl, ?_⟩
  rw [hR]
  exact ⟨rfl, hH⟩
 ·skip
  obtain rfl : e = 0 := by omega
  refine sq hA (q_not rfl) rfl fun a hA => ?_
  refine mv hA fun a hA => ?_
  refine gq hA rfl rfl (q_move rfl) rfl fun a hA => ?_
  refine gl hA rfl rfl (lo_call fn117 rfl (left_any _ _ _ _ _ (HS.rdM (Ns1 := [_]) hH hB) (by omega) hl (HS.handed (Ns1 := [_]) hH))) rfl ?_
  rintro _ w ⟨rfl, hC⟩ a hA
  replace hH := HS.call (Ns1 := [_]) hH hC
  clear hC
  refine gq hA rfl rfl (q_gtrI (n := 0) rfl rfl) rfl fun a hA => ?_
  refine sq hA (q_pick_t rfl rfl) rfl fun a hA => ?_
  refine wpList_nil ?_
  refine hK3 _ _ ?_
  clear hK3
  replace hA := hA.s3 10 2 0
  refine cond_d hA rfl (fun hc10 => ?_) (fun hc10 => ?_)
  ·skip
   have hR := rEnd_rest (X := l.drop k) (by omega)
   refine wp_region_lit ?_
   refine mv hA fun a hA => ?_
   refine mv hA fun a hA => ?_
   refine sq hA (q_nilCheck rfl) rfl fun a hA => ?_
   refine sq hA (q_fld 1 Tryd.underlying167 rfl rfl ti3 rfl) rfl fun a hA => ?_
   refine sq hA (q_loadB hH 0 rfl (List.mem_singleton.2 rfl) Tryd.underlying3 rfl rfl rfl) rfl fun a hA => ?_
   refine sl hA (lo_call fn116 rfl (fails_any _ _ _ _ _ (HS.rdM (Ns1 := [_]) hH hB) (by omega) hl _ _ (HS.handed (Ns1 := [_]) hH))) rfl ?_
   rintro _ w ⟨rfl, hC⟩ a hA
   replace hH := HS.call (Ns1 := [_]) hH hC
   clear hC
   refine wpList_nil ?_
   refine hK2 _ _ ?_
   clear hK2
   replace hA := hA.s2 2 0
   refine wp_seq_k fun K5 hK5 => ?_
   refine wp_region_lit ?_
   refine mv hA fun a hA => ?_
   refine sl hA (lo_call fn118 rfl (err_any _ _ _ _ _ (HS.rdM (Ns1 := [_]) hH hB) (by omega) hl (HS.handed (Ns1 := [_]) hH))) rfl ?_
   rintro _ w ⟨rfl, hC⟩ a hA
   replace hH := HS.call (Ns1 := [_]) hH hC
   clear hC
   refine asg hA fun a hA => ?_
   refine wpList_nil ?_
   refine hK5 _ _ ?_
   clear hK5
   replace hA := hA.s1 2
   refine wp_ret ?_
   refine post_ret hA (res_1 rfl hA rfl) ?_
   refine ⟨_, rfl, ?_⟩
   rw [hR]
   exact ⟨rfl, hH⟩
  ·skip
   first | have hR := rEnd_ok (X := l.drop k) (by omega) | skip
   refine wp_skip ?_
   refine hK2 _ _ ?_
   clear hK2
   replace hA := hA.s2 2 0
   refine wp_seq_k fun K6 hK6 => ?_
   refine wp_region_lit ?_
   refine mv hA fun a hA => ?_
   refine sl hA (lo_call fn118 rfl (err_any _ _ _ _ _ (HS.rdM (Ns1 := [_]) hH hB) (by omega) hl (HS.handed (Ns1 := [_]) hH))) rfl ?_
   rintro _ w ⟨rfl, hC⟩ a hA
   replace hH := HS.call (Ns1 := [_]) hH hC
   clear hC
   refine asg hA fun a hA => ?_
   refine wpList_nil ?_
   refine hK6 _ _ ?_
   clear hK6
   replace hA := hA.s1 2
   refine wp_ret ?_
   refine post_ret hA (res_1 rfl hA rfl) ?_
   refine ⟨_, rfl, ?_⟩
   rw [hR]
   exact ⟨rfl, hH⟩

end Go.Proofs.YtnnkgdijaekcfaaDoor
