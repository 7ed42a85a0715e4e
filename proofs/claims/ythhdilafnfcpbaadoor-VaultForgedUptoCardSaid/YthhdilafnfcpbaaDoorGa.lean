/- Layer 11 (frame), the program's and the document's. -/
import Derived.Test.YthhdilafnfcpbaaDoorEc
import Derived.Test.YthhdilafnfcpbaaDoorBx
import Derived.Test.YthhdilafnfcpbaaDoorMq
import Derived.Test.YthhdilafnfcpbaaDoorMzc
namespace Go.Proofs.YthhdilafnfcpbaaDoor
open Go
set_option linter.unusedVariables false
set_option linter.unusedSimpArgs false
set_option maxRecDepth 100000

theorem wrap_any {w0 : World} {lv : Nat} (hg : Gl lv w0) (v : Value) (l : Bs) (hr : By [] w0 v l) (hl : l.length ≤ 1000000) :
    Calls Tryd.prog 60 #[v] w0 (Ret fun r w' => ∃ v' N, r = .tuple #[v', I (wrapV l).2] ∧ Ow B8 5 v' (wrapV l).1 N ∧ HS [] w0 w' [N]) := by
 have hH := HS.start w0
 refine start (n := 16) (E := [(0, _)]) Tryd.func60 rfl rfl rfl (args_look rfl) ?_
 intro a hA
 refine wp_seq_k fun K1 hK1 => ?_
 refine wp_region_lit ?_
 refine asg hA fun a hA => ?_
 refine asg hA fun a hA => ?_
 refine wpList_nil ?_
 refine hK1 _ _ ?_
 clear hK1
 refine wp_seq_k fun K2 hK2 => ?_
 refine wp_seq_k fun K3 hK3 => ?_
 refine wp_region_lit ?_
 refine mv hA fun a hA => ?_
 refine sq hA (q_len Tryd.underlying32 rfl (Rd.shp hr)) rfl fun a hA => ?_
 refine sq hA (q_gtrI (n := 262144) rfl rfl) rfl fun a hA => ?_
 refine wpList_nil ?_
 refine hK3 _ _ ?_
 clear hK3
 replace hA := hA.s4 8 3 2 0
 refine cond_d hA rfl (fun hc8 => ?_) (fun hc8 => ?_)
 ·skip
  have hR := wrapV_bad (l := l) (by omega)
  refine wp_seq_k fun K4 hK4 => ?_
  refine wp_region_lit ?_
  refine asg hA fun a hA => ?_
  refine asg hA fun a hA => ?_
  refine wpList_nil ?_
  refine hK4 _ _ ?_
  clear hK4
  replace hA := hA.s3 3 2 0
  refine wp_ret ?_
  refine then_ret ?_
  refine post_ret hA (res_2 rfl hA rfl rfl) ?_
  exact ⟨_, rfl, _, [], by rw [hR] <;> rfl, by rw [hR]; exact Ow.nil B8 _, hH.nilFront⟩
 ·skip
  have hR := wrapV_ok (l := l) (by omega)
  have hw8 := wd_le (n := l.length) (by omega)
  refine wp_skip ?_
  refine hK2 _ _ ?_
  clear hK2
  replace hA := hA.s3 3 2 0
  refine wp_seq_k fun K5 hK5 => ?_
  refine wp_region_lit ?_
  refine mv hA fun a hA => ?_
  refine sl hA (lo_call fn68 rfl (wtext_any _ _ (hH.rd hr) (by first | omega | (simp; done) | (simp; omega)))) rfl ?_
  rintro _ w ⟨v_t10, N_t10, rfl, hO_t10, hC⟩ a hA
  replace hH := HS.call0 hH hC
  clear hC
  refine asg hA fun a hA => ?_
  refine wpList_nil ?_
  refine hK5 _ _ ?_
  clear hK5
  replace hA := hA.s3 4 3 2
  refine wp_seq_k fun K6 hK6 => ?_
  refine wp_region_lit ?_
  refine mv hA fun a hA => ?_
  refine sl hA (lo_call fn56 rfl (sum_any (hg.mono0 hH) _ _ (Own.rd0 hO_t10 hH 0 rfl) (by first | omega | (simp; done) | (simp; omega)))) rfl ?_
  rintro _ w ⟨rfl, hC⟩ a hA
  replace hH := HS.call0 hH hC
  clear hC
  refine sl hA (lo_allocA hH ti94) rfl ?_
  clear hH; rintro _ w ⟨b_t5, rfl, hH⟩ a hA
  refine s0 hA (lo_storeAm hH ti94 rfl rfl (by first | omega | (simp; done) | (simp; omega) | (rw [List.length_map]; assumption) | assumption | rfl | (simp [*]; done) | (simp [*]; omega)) (by first | omega | (simp; done) | (simp; omega) | (rw [List.length_map]; assumption) | assumption | rfl | (simp [*]; done) | (simp [*]; omega)) (one_B8 _)) ?_
  clear hH; rintro _ w hH
  refine wpList_nil ?_
  refine hK6 _ _ ?_
  clear hK6
  replace hA := hA.s4 5 4 3 2
  refine wp_seq_k fun K7 hK7 => ?_
  refine wp_region_lit ?_
  refine mv hA fun a hA => ?_
  refine sq hA (q_sliceA Tryd.underlying94 ti5 rfl 0 8 rfl rfl rfl rfl (by omega) (by omega)) rfl fun a hA => ?_
  replace hH := hH.pick [1, 0] (Hs' := [_, _]) rfl
  refine sl hA (lo_appm hH Tryd.underlying32 Tryd.underlying32 (.inl rfl) ti5 rfl rfl rfl hO_t10 (Rd.src (HS.by8 hH 1 rfl (by simp))) (one_B8 _) (by first | omega | (simp only [List.length_take, wtext_length, sha_length]; omega)) (by first | omega | (simp only [List.length_take, wtext_length, sha_length]; omega))) rfl ?_
  clear hH; rintro v_t15 w ⟨N_t15, hO_t15, hH⟩ a hA
  refine asg hA fun a hA => ?_
  refine asg hA fun a hA => ?_
  refine wpList_nil ?_
  refine hK7 _ _ ?_
  clear hK7
  replace hA := hA.s2 3 2
  refine wp_ret ?_
  refine post_ret hA (res_2 rfl hA rfl rfl) ?_
  replace hH := hH.pick [0] (Hs' := [_]) rfl
  exact ⟨_, rfl, v_t15, N_t15, by rw [hR] <;> rfl, by rw [hR]; exact hO_t15, hH⟩


theorem first_any {w0 : World} {lv : Nat} (hg : Gl (lv + 2) w0) (v : Value) (X : Bs) (hr : By [] w0 v X) (hl : X.length ≤ 1000000) :
    Calls Tryd.prog 40 #[v] w0 (Ret fun r w' => ∃ v' N m, r = .tuple #[v', I m, .bool (frV X).isSome] ∧ (∀ x n, frV X = some (x, n) → Ow B8 5 v' x N ∧ m = n) ∧ HS [] w0 w' [N]) := by
 have hH := HS.start w0
 refine start (n := 51) (E := [(0, _)]) Tryd.func40 rfl rfl rfl (args_look rfl) ?_
 intro a hA
 have htl : (rText 262144 (X, 0)).2.1.length ≤ X.length := (rText_len 262144 (X, 0)).1
 obtain ⟨t, ht⟩ : ∃ t, t = (rText 262144 (X, 0)) := ⟨_, rfl⟩
 have hno := frV_no (X := X)
 have hma := frV_mac (X := X)
 have hso := frV_some (X := X)
 rw [← ht] at htl hno hma hso
 refine wp_seq_k fun K1 hK1 => ?_
 refine wp_region_lit ?_
 refine asg hA fun a hA => ?_
 refine asg hA fun a hA => ?_
 refine asg hA fun a hA => ?_
 refine wpList_nil ?_
 refine hK1 _ _ ?_
 clear hK1
 refine wp_seq_k fun K2 hK2 => ?_
 refine wp_region_lit ?_
 refine mv hA fun a hA => ?_
 refine sq hA (q_buildC (css := [[v]]) (z := [(.slice none 0 0), (I 0)]) (BT.mk (pl := [(0, 1), (1, 1)]) (it := Tryd.t102) (by kernel_rfl) Tryd.underlying102 (by kernel_rfl) (by kernel_rfl)) rfl ⟨cells_one (Rd.one hr), ⟨_, rfl, by first | rfl | (simp [Value.cells]; done) | (simp [Value.cells, *]; done), by decide⟩, trivial⟩) rfl fun a hA => ?_
 refine sl hA (lo_boxA hH rfl) rfl ?_
 clear hH; rintro _ w ⟨b_t11, rfl, hH⟩ a hA
 refine asg hA fun a hA => ?_
 refine wpList_nil ?_
 refine hK2 _ _ ?_
 clear hK2
 replace hA := hA.s5 5 4 3 2 0
 refine wp_seq_k fun K3 hK3 => ?_
 refine wp_region_lit ?_
 refine mv hA fun a hA => ?_
 refine sl hA (lo_call fn62 rfl (refrtext_any b_t11 _ _ 0 (HS.rdM (Ns1 := [_]) hH hr) (by omega) 262144 (by decide) (HS.handed (Ns1 := [_]) hH))) rfl ?_
 rintro _ w ⟨w_t13, v_t13, N_t13, rfl, hO_t13, hT_t13, hC⟩ a hA
 replace hH := HS.call (Ns1 := [_]) hH hC
 clear hC
 rw [← ht] at hH hT_t13 hO_t13
 refine asg hA fun a hA => ?_
 refine wpList_nil ?_
 refine hK3 _ _ ?_
 clear hK3
 replace hA := hA.s6 6 5 4 3 2 0
 refine wp_seq_k fun K4 hK4 => ?_
 refine wp_seq_k fun K5 hK5 => ?_
 refine wp_region_lit ?_
 refine mv hA fun a hA => ?_
 refine sq hA (q_nilCheck rfl) rfl fun a hA => ?_
 refine sq hA (q_fld 1 Tryd.underlying102 rfl rfl ti3 rfl) rfl fun a hA => ?_
 refine sq hA (q_loadB hH 0 rfl (List.mem_singleton.2 rfl) Tryd.underlying3 rfl rfl rfl) rfl fun a hA => ?_
 refine sq hA (q_neqI (n := 0) rfl rfl) rfl fun a hA => ?_
 refine hA.spl (fun hs18 hA => ?_) (fun hs18 hA => ?_)
 ·skip
  have hR : frV X = none := hno (.inl (by omega))
  refine mv hA fun a hA => ?_
  refine gs hA rfl rfl rfl rfl fun a hA => ?_
  refine gs hA rfl rfl rfl rfl fun a hA => ?_
  refine gs hA rfl rfl rfl rfl fun a hA => ?_
  refine gs hA rfl rfl rfl rfl fun a hA => ?_
  refine gs hA rfl rfl rfl rfl fun a hA => ?_
  refine gs hA rfl rfl rfl rfl fun a hA => ?_
  refine sq hA (q_pick_t rfl rfl) rfl fun a hA => ?_
  refine wpList_nil ?_
  refine hK5 _ _ ?_
  clear hK5
  replace hA := hA.s7 26 6 5 4 3 2 0
  refine cond_t hA rfl ?_
  refine wp_seq_k fun K6 hK6 => ?_
  refine wp_region_lit ?_
  refine asg hA fun a hA => ?_
  refine asg hA fun a hA => ?_
  refine asg hA fun a hA => ?_
  refine wpList_nil ?_
  refine hK6 _ _ ?_
  clear hK6
  replace hA := hA.s6 4 3 2 6 5 0
  refine wp_ret ?_
  refine then_ret ?_
  refine post_ret hA (res_3 rfl hA rfl rfl rfl) ?_
  replace hH := hH.pick [1, 0] (Hs' := [_, _]) rfl
  replace hH := hH.pick [0] (Hs' := [_]) rfl
  first
    | exact ⟨_, rfl, _, N_t13, 0, by rw [hR] <;> rfl, fun x n h => (by rw [hR] at h; cases h), hH⟩
    | by_cases hm : (sha (X.take (X.length - t.2.1.length))).take 8 = t.2.1.take 8
      · have hR := hso hgo hm
        exact ⟨_, rfl, v_t13, N_t13, _, by rw [hR, decide_eq_true hm] <;> rfl, fun x n h => by rw [hR] at h; simp only [Option.some.injEq, Prod.mk.injEq] at h; obtain ⟨rfl, rfl⟩ := h; exact ⟨hO_t13, rfl⟩, hH⟩
      · have hR := hma hm
        exact ⟨_, rfl, v_t13, N_t13, _, by rw [hR, decide_eq_false hm] <;> rfl, fun x n h => by rw [hR] at h; (cases h), hH⟩
 ·skip
  refine mv hA fun a hA => ?_
  refine gq hA rfl rfl (q_move rfl) rfl fun a hA => ?_
  refine gq hA rfl rfl (q_nilCheck rfl) rfl fun a hA => ?_
  refine gq hA rfl rfl (q_fld 0 Tryd.underlying102 rfl rfl ti32 rfl) rfl fun a hA => ?_
  refine gq hA rfl rfl (q_loadB hH 0 rfl (List.mem_singleton.2 rfl) Tryd.underlying32 rfl rfl rfl) rfl fun a hA => ?_
  refine gq hA rfl rfl (q_len Tryd.underlying32 rfl (Rd.shp (hT_t13 _ _ hr))) rfl fun a hA => ?_
  refine gq hA rfl rfl (q_lssI (n := 8) rfl rfl) rfl fun a hA => ?_
  refine sq hA (q_pick_f rfl rfl) rfl fun a hA => ?_
  refine wpList_nil ?_
  refine hK5 _ _ ?_
  clear hK5
  replace hA := hA.s7 26 6 5 4 3 2 0
  refine cond_d hA rfl (fun hc26 => ?_) (fun hc26 => ?_)
  ·skip
   first | have hR : frV X = none := hno (.inl (by omega)) | have hR : frV X = none := hno (.inr (by omega))
   refine wp_seq_k fun K7 hK7 => ?_
   refine wp_region_lit ?_
   refine asg hA fun a hA => ?_
   refine asg hA fun a hA => ?_
   refine asg hA fun a hA => ?_
   refine wpList_nil ?_
   refine hK7 _ _ ?_
   clear hK7
   replace hA := hA.s6 4 3 2 6 5 0
   refine wp_ret ?_
   refine then_ret ?_
   refine post_ret hA (res_3 rfl hA rfl rfl rfl) ?_
   replace hH := hH.pick [1, 0] (Hs' := [_, _]) rfl
   replace hH := hH.pick [0] (Hs' := [_]) rfl
   first
     | exact ⟨_, rfl, _, N_t13, 0, by rw [hR] <;> rfl, fun x n h => (by rw [hR] at h; cases h), hH⟩
     | by_cases hm : (sha (X.take (X.length - t.2.1.length))).take 8 = t.2.1.take 8
       · have hR := hso hgo hm
         exact ⟨_, rfl, v_t13, N_t13, _, by rw [hR, decide_eq_true hm] <;> rfl, fun x n h => by rw [hR] at h; simp only [Option.some.injEq, Prod.mk.injEq] at h; obtain ⟨rfl, rfl⟩ := h; exact ⟨hO_t13, rfl⟩, hH⟩
       · have hR := hma hm
         exact ⟨_, rfl, v_t13, N_t13, _, by rw [hR, decide_eq_false hm] <;> rfl, fun x n h => by rw [hR] at h; (cases h), hH⟩
  ·skip
   have hgo : ¬ (t.2.2 ≠ 0 ∨ t.2.1.length < 8) := by omega
   refine wp_skip ?_
   refine hK4 _ _ ?_
   clear hK4
   replace hA := hA.s6 6 5 4 3 2 0
   refine wp_seq_k fun K8 hK8 => ?_
   refine wp_region_lit ?_
   refine mv hA fun a hA => ?_
   refine sq hA (q_len Tryd.underlying32 rfl (Rd.shp hr)) rfl fun a hA => ?_
   refine mv hA fun a hA => ?_
   refine sq hA (q_nilCheck rfl) rfl fun a hA => ?_
   refine sq hA (q_fld 0 Tryd.underlying102 rfl rfl ti32 rfl) rfl fun a hA => ?_
   refine sq hA (q_loadB hH 0 rfl (List.mem_singleton.2 rfl) Tryd.underlying32 rfl rfl rfl) rfl fun a hA => ?_
   refine sq hA (q_len Tryd.underlying32 rfl (Rd.shp (hT_t13 _ _ hr))) rfl fun a hA => ?_
   refine sq hA (q_subI rfl rfl (by omega)) rfl fun a hA => ?_
   rw [show ((X.length : Int) - (t.2.1.length : Nat)) = ((X.length - t.2.1.length : Nat) : Int) by omega] at hA
   refine asg hA fun a hA => ?_
   refine wpList_nil ?_
   refine hK8 _ _ ?_
   clear hK8
   replace hA := hA.s7 7 6 5 4 3 2 0
   refine wp_seq_k fun K9 hK9 => ?_
   refine wp_region_lit ?_
   refine mv hA fun a hA => ?_
   refine mv hA fun a hA => ?_
   obtain ⟨v_t37, hv_t37, hP_t37⟩ := By.piece0 (Rd.shp hr) ((X.length - t.2.1.length)) (by omega) rfl
   refine sq hA (q_slice Tryd.underlying32 ti5 rfl (0) ((X.length - t.2.1.length)) hv_t37 (Rd.shp hr) rfl rfl (rfl) (rfl) (by omega) (by omega)) rfl fun a hA => ?_
   refine sl hA (lo_call fn64 rfl (refsum_any (hg.mono0 hH) _ _ (hH.rd (hP_t37 _ _ hr)) (by first | omega | (simp; done) | (simp; omega)))) rfl ?_
   rintro _ w ⟨rfl, hC⟩ a hA
   replace hH := HS.call0 hH hC
   clear hC
   refine sl hA (lo_call fn63 rfl (refdigest_any _ (by first | assumption | (rw [List.length_map]; assumption) | rfl | exact sha_length _ | (simp; done) | (simp [*]; done) | omega))) rfl ?_
   rintro _ w ⟨v_t39, N_t39, rfl, hO_t39, hC⟩ a hA
   replace hH := HS.call0 hH hC
   clear hC
   refine asg hA fun a hA => ?_
   refine wpList_nil ?_
   refine hK9 _ _ ?_
   clear hK9
   replace hA := hA.s7 8 7 6 5 4 3 2
   refine wp_seq_k fun K10 hK10 => ?_
   refine any_go mixed (fun _ => true) hH ?_
   clear hH; intro w hH
   have hS := hH
   refine any_l 14 ?_
   refine p0 hA 0 1 rfl (fun w => (q_move rfl)) fun a hA => ?_
   refine p0 hA 1 3 rfl (fun w => (q_move rfl)) fun a hA => ?_
   refine p0 hA 2 7 rfl (fun w => (q_addI (n := 8) rfl rfl (by omega))) fun a hA => ?_
   refine p0 hA 3 15 rfl (fun w => (q_move rfl)) fun a hA => ?_
   obtain ⟨v_t44, hv_t44, hO_t44⟩ := Ow.cut0 hO_t39 (8) (by first | omega | simp)
   refine p0 hA 4 31 rfl (fun w => (q_slice Tryd.underlying32 ti5 rfl (0) (8) hv_t44 (Own.shp hO_t39) rfl rfl (rfl) (by first | omega | rfl) (by first | omega | simp) (by first | omega | simp))) fun a hA => ?_
   refine p0 hA 5 63 rfl (fun w => (q_move rfl)) fun a hA => ?_
   refine p0 hA 6 127 rfl (fun w => (q_nilCheck rfl)) fun a hA => ?_
   refine p0 hA 7 255 rfl (fun w => (q_fld 0 Tryd.underlying102 rfl rfl ti32 rfl)) fun a hA => ?_
   refine r0 hA 8 511 rfl hS (fun w hH => (q_loadB hH 1 rfl (List.mem_singleton.2 rfl) Tryd.underlying32 rfl rfl rfl)) fun a hA => ?_
   obtain ⟨v_t49, hv_t49, hP_t49⟩ := By.piece0 (Rd.shp (hT_t13 _ _ hr)) (8) (by first | omega | (simp; omega) | (simp [*]; omega)) rfl
   refine p0 hA 9 1023 rfl (fun w => (q_slice Tryd.underlying32 ti5 rfl (0) (8) hv_t49 (Rd.shp (hT_t13 _ _ hr)) rfl rfl (rfl) (by first | omega | rfl) (by first | omega | (simp; omega) | (simp [*]; omega)) (by first | omega | (simp; omega) | (simp [*]; omega)))) fun a hA => ?_
   refine a1 hA 10 2047 rfl (lo_call fn21 rfl (same_any _ _ _ _ (Own.rd0 hO_t44 hH 0 rfl) (hH.rd (hP_t49 _ _ (hT_t13 _ _ hr))) (by first | omega | (simp; done) | (simp; omega)) (by first | omega | (simp; done) | (simp; omega)))) ?_
   rintro _ w ⟨rfl, hC⟩
   replace hH := HS.call0 hH hC
   clear hC
   replace hS := hH.pick [0, 1, 2] (Hs' := [_, _, _]) rfl
   refine ⟨fun _ _ => hS, ?_⟩
   intro a hA
   refine p0 hA 11 4095 rfl (fun w => (q_assign rfl)) fun a hA => ?_
   refine p0 hA 12 8191 rfl (fun w => (q_assign rfl)) fun a hA => ?_
   refine p0 hA 13 16383 rfl (fun w => (q_assign rfl)) fun a hA => ?_
   refine a_end (by kernel_rfl) ?_ _
   refine hK10 _ _ ?_
   clear hK10
   replace hA := hA.s3 4 3 2
   refine wp_ret ?_
   refine post_ret hA (res_3 rfl hA rfl rfl rfl) ?_
   replace hH := hH.pick [2, 0, 1] (Hs' := [_, _, _]) rfl
   replace hH := hH.pick [0] (Hs' := [_]) rfl
   first
     | exact ⟨_, rfl, _, N_t13, 0, by rw [hR] <;> rfl, fun x n h => (by rw [hR] at h; cases h), hH⟩
     | by_cases hm : (sha (X.take (X.length - t.2.1.length))).take 8 = t.2.1.take 8
       · have hR := hso hgo hm
         exact ⟨_, rfl, v_t13, N_t13, _, by rw [hR, decide_eq_true hm] <;> rfl, fun x n h => by rw [hR] at h; simp only [Option.some.injEq, Prod.mk.injEq] at h; obtain ⟨rfl, rfl⟩ := h; exact ⟨hO_t13, rfl⟩, hH⟩
       · have hR := hma hm
         exact ⟨_, rfl, v_t13, N_t13, _, by rw [hR, decide_eq_false hm] <;> rfl, fun x n h => by rw [hR] at h; (cases h), hH⟩

end Go.Proofs.YthhdilafnfcpbaaDoor
