/- Layer 3 (mac). -/
import Derived.Test.YthhdilafnfcpbaaDoorLl
import Derived.Test.YthhdilafnfcpbaaDoorTa
import Derived.Test.YthhdilafnfcpbaaDoorTb
import Derived.Test.YthhdilafnfcpbaaDoorMza
import Derived.Test.YthhdilafnfcpbaaDoorBa
import Derived.Test.YthhdilafnfcpbaaDoorBb
import Derived.Test.YthhdilafnfcpbaaDoorBc
import Derived.Test.YthhdilafnfcpbaaDoorBd
namespace Go.Proofs.YthhdilafnfcpbaaDoor
open Go
set_option linter.unusedVariables false
set_option linter.unusedSimpArgs false
set_option maxRecDepth 100000




theorem refdigest_any {w0 : World} (l : Bs) (hl : l.length = 32) :
    Calls Tryd.prog 63 #[(.agg (l.map B8).toArray)] w0 (Ret fun r w' => ∃ v N, v = r ∧ Ow B8 5 v l N ∧ HS [] w0 w' [N]) := by
 have hH := HS.start w0
 refine start (n := 16) (E := [(0, _)]) Tryd.func63 rfl rfl rfl (args_look rfl) ?_
 intro a hA
 refine wp_seq_k fun K1 hK1 => ?_
 refine wp_region_lit ?_
 refine sl hA (lo_boxA hH rfl) rfl ?_
 clear hH; rintro _ w ⟨b_t1, rfl, hH⟩ a hA
 refine asg hA fun a hA => ?_
 refine wpList_nil ?_
 refine hK1 _ _ ?_
 clear hK1
 replace hA := hA.s2 2 1
 refine wp_seq_k fun K2 hK2 => ?_
 refine wp_region_lit ?_
 refine asg hA fun a hA => ?_
 refine wpList_nil ?_
 refine hK2 _ _ ?_
 clear hK2
 refine wp_seq_k fun K3 hK3 => ?_
 refine wp_seq_k fun K4 hK4 => ?_
 refine wp_region_lit ?_
 refine asg hA fun a hA => ?_
 refine wpList_nil ?_
 refine hK4 _ _ ?_
 clear hK4
 refine wp_block ?_
 replace hH := hH.nilFront
 refine wp_loop_ghost (fun gm a w => ∃ i : Nat, ∃ v_o : Value, ∃ N_o : Hl, At 16 [(4, I i), (3, v_o), (2, (.slice none 0 0)), (1, (.pointer (some ⟨b_t1, 0, none⟩)))] a ∧ HS [] w0 w ([N_o, [(b_t1, Obj.cells ((l).map B8).toArray 94 (0, 0))]]) ∧ (i ≤ 32) ∧ (Ow B8 5 v_o (l.take i) N_o) ∧ gm = 32 - i) (32 - (0)) ⟨0, (.slice none 0 0), [], hA.sub ⟨rfl, rfl, rfl, rfl, trivial⟩, hH, by omega, by exact Ow.nil B8 _, rfl⟩ ?_
 clear hA hH
 rintro gm a w ⟨i, v_o, N_o, hA, hH, hi, hO_o, rfl⟩
 refine wp_seq_k fun K5 hK5 => ?_
 refine wp_seq_k fun K6 hK6 => ?_
 refine wp_region_lit ?_
 refine mv hA fun a hA => ?_
 refine sq hA (q_lssI (n := 32) rfl rfl) rfl fun a hA => ?_
 refine wpList_nil ?_
 refine hK6 _ _ ?_
 clear hK6
 refine cond_d hA rfl (fun hc6 => ?_) (fun hc6 => ?_)
 ·skip
  refine wp_skip ?_
  refine hK5 _ _ ?_
  clear hK5
  refine wp_seq_k fun K7 hK7 => ?_
  refine wp_block ?_
  refine wp_region_lit ?_
  refine mv hA fun a hA => ?_
  refine mv hA fun a hA => ?_
  refine sq hA (q_idxA1 (i) Tryd.underlying94 ti5 rfl rfl (by first | omega | rfl) (by first | omega | (simp; done) | (simp; omega) | (rw [List.length_map]; assumption) | assumption | rfl | (simp [*]; done) | (simp [*]; omega))) rfl fun a hA => ?_
  refine sq hA (q_loadBm (0#8) hH 1 rfl Tryd.underlying5 rfl rfl (by first | omega | (simp; done) | (simp; omega) | (rw [List.length_map]; assumption) | assumption | rfl | (simp [*]; done) | (simp [*]; omega))) rfl fun a hA => ?_
  refine sl hA (lo_bs (f := B8) (e := 5) ([l.getD i 0#8]) hH rfl rfl (fun w => by kernel_rfl)) rfl ?_
  clear hH; rintro v_t13 w ⟨N_t13, hO_t13, hH⟩ a hA
  replace hH := hH.pick [1, 0, 2] (Hs' := [_, _, _]) rfl
  refine sl hA (lo_appm hH Tryd.underlying32 Tryd.underlying32 (.inl rfl) ti5 rfl rfl rfl hO_o (Rd.src (Own.rd0 hO_t13 hH 1 rfl)) (one_B8 _) (by first | omega | (simp; done) | (simp; omega)) (by first | omega | (simp; done) | (simp; omega))) rfl ?_
  clear hH; rintro v_t14 w ⟨N_t14, hO_t14, hH⟩ a hA
  refine asg hA fun a hA => ?_
  refine wpList_nil ?_
  refine block_normal ?_
  refine hK7 _ _ ?_
  clear hK7
  refine wp_region_lit ?_
  refine mv hA fun a hA => ?_
  refine sq hA (q_addI (n := 1) rfl rfl (by omega)) rfl fun a hA => ?_
  refine asg hA fun a hA => ?_
  refine wpList_nil ?_
  replace hH := hH.pick [0, 2, 1] (Hs' := [_, _, _]) rfl
  replace hH := hH.pick [0, 1] (Hs' := [_, _]) rfl
  exact ⟨_, by omega, i + 1, v_t14, N_t14, hA.sub ⟨rfl, rfl, rfl, rfl, trivial⟩, hH, by omega, by (rw [take_snoc (d := 0#8) l (by omega)]; exact hO_t14), rfl⟩
 ·skip
  obtain rfl : i = 32 := by omega
  rw [List.take_of_length_le (by omega)] at hO_o
  refine wp_exit ?_
  refine then_exit ?_
  refine then_exit ?_
  refine exit_here ?_
  refine hK3 _ _ ?_
  clear hK3
  replace hA := hA.s2 3 2
  refine wp_seq_k fun K8 hK8 => ?_
  refine wp_region_lit ?_
  refine mv hA fun a hA => ?_
  refine asg hA fun a hA => ?_
  refine wpList_nil ?_
  refine hK8 _ _ ?_
  clear hK8
  replace hA := hA.s1 2
  refine wp_ret ?_
  refine post_ret hA (res_1 rfl hA rfl) ?_
  replace hH := hH.pick [0] (Hs' := [_]) rfl
  exact ⟨_, rfl, v_o, N_o, rfl, hO_o, hH⟩


end Go.Proofs.YthhdilafnfcpbaaDoor
