/- Layer 11 (frame), the program's and the document's. -/
import Derived.Test.YthhdilafnfcpbaaDoorEc
import Derived.Test.YthhdilafnfcpbaaDoorBx
import Derived.Test.YthhdilafnfcpbaaDoorMq
import Derived.Test.YthhdilafnfcpbaaDoorMzc
namespace Go.Proofs.YthhdilafnfcpbaaDoor
open Go
set_option linter.unusedVariables false
set_option linter.unusedSimpArgs false
set_option maxRecDepth 100000

theorem wrap_any {w0 : World} {lv : Nat} (hg : Gl lv w0) (v : Value) (l : Bs) (hr : By [] w0 v l) (hl : l.length ≤ 1000000) :
    Calls Tryd.prog 60 #[v] w0 (Ret fun r w' => ∃ v' N, r = .tuple #[v', I (wrapV l).2] ∧ Ow B8 5 v' (wrapV l).1 N ∧ HS [] w0 w' [N]) := by
 have hH := HS.start w0
 refine start (n := 16) (E := [(0, _)]) Tryd.func60 rfl rfl rfl (args_look rfl) ?_
 intro a hA
 refine wp_seq_k fun K1 hK1 => ?_
 refine wp_region_lit ?_
 refine asg hA fun a hA => ?_
 refine asg hA fun a hA => ?_
 refine wpList_nil ?_
 refine hK1 _ _ ?_
 clear hK1
 refine wp_seq_k fun K2 hK2 => ?_
 refine wp_seq_k fun K3 hK3 => ?_
 refine wp_region_lit ?_
 refine mv hA fun a hA => ?_
 refine sq hA (q_len Tryd.underlying32 rfl (Rd.shp hr)) rfl fun a hA => ?_
 refine sq hA (q_gtrI (n := 262144) rfl rfl) rfl fun a hA => ?_
 refine wpList_nil ?_
 refine hK3 _ _ ?_
 clear hK3
 replace hA := hA.s4 8 3 2 0
 refine cond_d hA rfl (fun hc8 => ?_) (fun hc8 => ?_)
 ·skip
  have hR := wrapV_bad (l := l) (by omega)
  refine wp_seq_k fun K4 hK4 => ?_
  refine wp_region_lit ?_
  refine asg hA fun a hA => ?_
  refine asg hA fun a hA => ?_
  refine wpList_nil ?_
  refine hK4 _ _ ?_
  clear hK4
  replace hA := hA.s3 3 2 0
  refine wp_ret ?_
  refine then_ret ?_
  refine post_ret hA (res_2 rfl hA rfl rfl) ?_
  exact ⟨_, rfl, _, [], by rw [hR] <;> rfl, by rw [hR]; exact Ow.nil B8 _, hH.nilFront⟩
 ·skip
  have hR := wrapV_ok (l := l) (by omega)
  have hw8 := wd_le (n := l.length) (by omega)
  refine wp_skip ?_
  refine hK2 _ _ ?_
  clear hK2
  replace hA := hA.s3 3 2 0
  refine wp_seq_k fun K5 hK5 => ?_
  refine wp_region_lit ?_
  refine mv hA fun a hA => ?_
  refine sl hA (lo_call fn68 rfl (wtext_any _ _ (hH.rd hr) (by first | omega | (simp; done) | (simp; omega)))) rfl ?_
  rintro _ w ⟨v_t10, N_t10, rfl, hO_t10, hC⟩ a hA
  replace hH := HS.call0 hH hC
  clear hC
  refine asg hA fun a hA => ?_
  refine wpList_nil ?_
  refine hK5 _ _ ?_
  clear hK5
  replace hA := hA.s3 4 3 2
  refine wp_seq_k fun K6 hK6 => ?_
  refine wp_region_lit ?_
  refine mv hA fun a hA => ?_
  refine sl hA (lo_call fn56 rfl (sum_any (hg.mono0 hH) _ _ (Own.rd0 hO_t10 hH 0 rfl) (by first | omega | (simp; done) | (simp; omega)))) rfl ?_
  rintro _ w ⟨rfl, hC⟩ a hA
  replace hH := HS.call0 hH hC
  clear hC
  refine sl hA (lo_allocA hH ti94) rfl ?_
  clear hH; rintro _ w ⟨b_t5, rfl, hH⟩ a hA
  refine s0 hA (lo_storeAm hH ti94 rfl rfl (by first | omega | (simp; done) | (simp; omega) | (rw [List.length_map]; assumption) | assumption | rfl | (simp [*]; done) | (simp [*]; omega)) (by first | omega | (simp; done) | (simp; omega) | (rw [List.length_map]; assumption) | assumption | rfl | (simp [*]; done) | (simp [*]; omega)) (one_B8 _)) ?_
  clear hH; rintro _ w hH
  refine wpList_nil ?_
  refine hK6 _ _ ?_
  clear hK6
  replace hA := hA.s4 5 4 3 2
  refine wp_seq_k fun K7 hK7 => ?_
  refine wp_region_lit ?_
  refine mv hA fun a hA => ?_
  refine sq hA (q_sliceA Tryd.underlying94 ti5 rfl 0 8 rfl rfl rfl rfl (by omega) (by omega)) rfl fun a hA => ?_
  replace hH := hH.pick [1, 0] (Hs' := [_, _]) rfl
  refine sl hA (lo_appm hH Tryd.underlying32 Tryd.underlying32 (.inl rfl) ti5 rfl rfl rfl hO_t10 (Rd.src (HS.by8 hH 1 rfl (by simp))) (one_B8 _) (by first | omega | (simp only [List.length_take, wtext_length, sha_length]; omega)) (by first | omega | (simp only [List.length_take, wtext_length, sha_length]; omega))) rfl ?_
  clear hH; rintro v_t15 w ⟨N_t15, hO_t15, hH⟩ a hA
  refine asg hA fun a hA => ?_
  refine asg hA fun a hA => ?_
  refine wpList_nil ?_
  refine hK7 _ _ ?_
  clear hK7
  replace hA := hA.s2 3 2
  refine wp_ret ?_
  refine post_ret hA (res_2 rfl hA rfl rfl) ?_
  replace hH := hH.pick [0] (Hs' := [_]) rfl
  exact ⟨_, rfl, v_t15, N_t15, by rw [hR] <;> rfl, by rw [hR]; exact hO_t15, hH⟩


end Go.Proofs.YthhdilafnfcpbaaDoor
