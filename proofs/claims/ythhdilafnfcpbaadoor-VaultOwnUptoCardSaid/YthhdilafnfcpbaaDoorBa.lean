/- Layer 1 (bits), the program's and the document's: what each function comes to. -/
import Derived.Test.YthhdilafnfcpbaaDoorTa
import Derived.Test.YthhdilafnfcpbaaDoorLl
import Derived.Test.YthhdilafnfcpbaaDoorMza
namespace Go.Proofs.YthhdilafnfcpbaaDoor
open Go
set_option linter.unusedVariables false
set_option linter.unusedSimpArgs false
set_option maxRecDepth 100000

theorem rot_any {w0 : World} (x : BitVec 32) (n : Nat) (hn : n < 32) :
    Calls Tryd.prog 90 #[U32 x, I n] w0 (Ret fun r w' => r = U32 (rotR x n) ∧ HS [] w0 w' []) := by
 have hH := HS.start w0
 refine start (n := 17) (E := [(0, _), (1, _)]) Tryd.func90 rfl rfl rfl (args_look rfl) ?_
 intro a hA
 refine wp_seq_k fun K1 hK1 => ?_
 refine wp_region_lit ?_
 refine asg hA fun a hA => ?_
 refine wpList_nil ?_
 refine hK1 _ _ ?_
 clear hK1
 refine wp_seq_k fun K2 hK2 => ?_
 refine wp_region_lit ?_
 refine mv hA fun a hA => ?_
 refine sq hA (q_cvI64 Tryd.underlying3 Tryd.underlying125 rfl) rfl fun a hA => ?_
 refine sq hA (q_and64 (q := 31#64) rfl rfl) rfl fun a hA => ?_
 refine asg hA fun a hA => ?_
 refine wpList_nil ?_
 refine hK2 _ _ ?_
 clear hK2
 replace hA := hA.s3 5 4 0
 refine wp_seq_k fun K3 hK3 => ?_
 refine wp_region_lit ?_
 refine mv hA fun a hA => ?_
 refine mv hA fun a hA => ?_
 refine sq hA (q_shr32 rfl rfl) rfl fun a hA => ?_
 refine mv hA fun a hA => ?_
 refine mv hA fun a hA => ?_
 refine sq hA (q_sub64 (p := 32#64) rfl rfl) rfl fun a hA => ?_
 refine sq hA (q_shl32 rfl rfl) rfl fun a hA => ?_
 refine sq hA (q_or32 rfl rfl) rfl fun a hA => ?_
 refine asg hA fun a hA => ?_
 refine wpList_nil ?_
 refine hK3 _ _ ?_
 clear hK3
 replace hA := hA.s1 4
 refine wp_ret ?_
 refine post_ret hA (res_1 rfl hA rfl) ?_
 exact ⟨_, rfl, by rw [rot_prog x hn], hH⟩

theorem number_any {w0 : World} (v : Value) (l : List (BitVec 8)) (hr : By [] w0 v l) (hl : l.length ≤ 8) :
    Calls Tryd.prog 74 #[v] w0 (Ret fun r w' => r = .tuple #[U64 (num l), I 0] ∧ HS [] w0 w' []) := by
 have hH := HS.start w0
 refine start (n := 23) (E := [(0, _)]) Tryd.func74 rfl rfl rfl (args_look rfl) ?_
 intro a hA
 refine wp_seq_k fun K1 hK1 => ?_
 refine wp_region_lit ?_
 refine asg hA fun a hA => ?_
 refine asg hA fun a hA => ?_
 refine wpList_nil ?_
 refine hK1 _ _ ?_
 clear hK1
 refine wp_seq_k fun K2 hK2 => ?_
 refine wp_seq_k fun K3 hK3 => ?_
 refine wp_region_lit ?_
 refine mv hA fun a hA => ?_
 refine sq hA (q_len Tryd.underlying32 rfl (Rd.shp hr)) rfl fun a hA => ?_
 refine sq hA (q_gtrI (n := 8) rfl rfl) rfl fun a hA => ?_
 refine wpList_nil ?_
 refine hK3 _ _ ?_
 clear hK3
 replace hA := hA.s4 9 3 2 0
 refine cond_d hA rfl (fun hnn => absurd hnn (by omega)) (fun _ => ?_)
 refine wp_skip ?_
 refine hK2 _ _ ?_
 clear hK2
 replace hA := hA.s3 3 2 0
 refine wp_seq_k fun K4 hK4 => ?_
 refine wp_region_lit ?_
 refine asg hA fun a hA => ?_
 refine wpList_nil ?_
 refine hK4 _ _ ?_
 clear hK4
 refine wp_seq_k fun K5 hK5 => ?_
 refine wp_seq_k fun K6 hK6 => ?_
 refine wp_region_lit ?_
 refine mv hA fun a hA => ?_
 refine sq hA (q_len Tryd.underlying32 rfl (Rd.shp hr)) rfl fun a hA => ?_
 refine mv hA fun a hA => ?_
 refine wpList_nil ?_
 refine hK6 _ _ ?_
 clear hK6
 replace hA := hA.s6 12 11 10 4 3 2
 refine wp_block ?_
 refine wp_loop_ghost (fun gm a w => ∃ i : Nat, ∃ n : BitVec 64, At 23 [(12, I i), (11, I l.length), (10, v), (4, U64 n), (3, I 0), (2, U64 0#64)] a ∧ HS [] w0 w ([]) ∧ (i ≤ l.length) ∧ (n = num (l.take i)) ∧ gm = l.length - i) (l.length - (0)) ⟨0, 0#64, hA.sub ⟨rfl, rfl, rfl, rfl, rfl, rfl, trivial⟩, hH, by omega, by simp [num], rfl⟩ ?_
 clear hA hH
 rintro gm a w ⟨i, n, hA, hH, hi, hn, rfl⟩
 refine wp_seq_k fun K7 hK7 => ?_
 refine wp_region_lit ?_
 refine sq hA (q_lssI rfl rfl) rfl fun a hA => ?_
 refine wpList_nil ?_
 refine hK7 _ _ ?_
 clear hK7
 refine wp_seq_k fun K8 hK8 => ?_
 refine cond_d hA rfl (fun hc13 => ?_) (fun hc13 => ?_)
 ·skip
  refine wp_skip ?_
  refine hK8 _ _ ?_
  clear hK8
  refine wp_seq_k fun K9 hK9 => ?_
  refine wp_block ?_
  refine wp_seq_k fun K10 hK10 => ?_
  refine wp_region_lit ?_
  refine sq hA (q_idx1 (i) Tryd.underlying32 ti5 rfl rfl (by first | omega | rfl) (Rd.shp hr) (by first | omega | (simp; done) | (simp; omega) | (rw [List.length_map]; assumption) | assumption | rfl | (simp [*]; done) | (simp [*]; omega))) rfl fun a hA => ?_
  refine sq hA (q_loadRm (0#8) Tryd.underlying5 rfl rfl (hH.rd hr) (by first | omega | (simp; done) | (simp; omega) | (rw [List.length_map]; assumption) | assumption | rfl | (simp [*]; done) | (simp [*]; omega))) rfl fun a hA => ?_
  refine asg hA fun a hA => ?_
  refine wpList_nil ?_
  refine hK10 _ _ ?_
  clear hK10
  refine wp_region_lit ?_
  refine mv hA fun a hA => ?_
  refine sq hA (q_shl64 (n := 8) rfl rfl) rfl fun a hA => ?_
  refine mv hA fun a hA => ?_
  refine sq hA (q_cv8_64 Tryd.underlying5 Tryd.underlying91 rfl) rfl fun a hA => ?_
  refine sq hA (q_or64 rfl rfl) rfl fun a hA => ?_
  refine asg hA fun a hA => ?_
  refine wpList_nil ?_
  refine block_normal ?_
  refine hK9 _ _ ?_
  clear hK9
  refine wp_region_lit ?_
  refine sq hA (q_addI (n := 1) rfl rfl (by omega)) rfl fun a hA => ?_
  refine mv hA fun a hA => ?_
  refine wpList_nil ?_
  exact ⟨_, by omega, i + 1, _, hA.sub ⟨rfl, rfl, rfl, rfl, rfl, rfl, trivial⟩, hH, by omega, by (subst hn; rw [take_snoc l (by omega), num_snoc]), rfl⟩
 ·skip
  refine wp_exit ?_
  refine then_exit ?_
  refine then_exit ?_
  refine exit_here ?_
  refine hK5 _ _ ?_
  clear hK5
  replace hA := hA.s3 4 3 2
  refine wp_seq_k fun K11 hK11 => ?_
  refine wp_region_lit ?_
  refine mv hA fun a hA => ?_
  refine asg hA fun a hA => ?_
  refine asg hA fun a hA => ?_
  refine wpList_nil ?_
  refine hK11 _ _ ?_
  clear hK11
  replace hA := hA.s2 3 2
  refine wp_ret ?_
  refine post_ret hA (res_2 rfl hA rfl rfl) ?_
  have : i = l.length := by omega
  subst this; subst hn; exact ⟨_, rfl, by rw [List.take_length], hH⟩

theorem word_any {w0 : World} (v : Value) (l : List (BitVec 8)) (i : Nat) (hr : By [] w0 v l) (hi : i + 4 ≤ l.length) (hl : l.length ≤ 1048576) :
    Calls Tryd.prog 89 #[v, I i] w0 (Ret fun r w' => r = .tuple #[U32 (word l i), I 0] ∧ HS [] w0 w' []) := by
 have hH := HS.start w0
 refine start (n := 29) (E := [(0, _), (1, _)]) Tryd.func89 rfl rfl rfl (args_look rfl) ?_
 intro a hA
 refine wp_seq_k fun K1 hK1 => ?_
 refine wp_region_lit ?_
 refine asg hA fun a hA => ?_
 refine asg hA fun a hA => ?_
 refine wpList_nil ?_
 refine hK1 _ _ ?_
 clear hK1
 refine wp_seq_k fun K2 hK2 => ?_
 refine wp_seq_k fun K3 hK3 => ?_
 refine wp_region_lit ?_
 refine mv hA fun a hA => ?_
 refine sq hA (Runs.bf (q_lssI (n := 0) rfl rfl) (by omega)) rfl fun a hA => ?_
 refine mv hA fun a hA => ?_
 refine gq hA rfl rfl (q_move rfl) rfl fun a hA => ?_
 refine gq hA rfl rfl (q_move rfl) rfl fun a hA => ?_
 refine gq hA rfl rfl (q_len Tryd.underlying32 rfl (Rd.shp hr)) rfl fun a hA => ?_
 refine gq hA rfl rfl (q_subI (n := 4) rfl rfl (by omega)) rfl fun a hA => ?_
 refine gq hA rfl rfl (Runs.bf (q_gtrI rfl rfl) (by omega)) rfl fun a hA => ?_
 refine sq hA (q_pick_f rfl rfl) rfl fun a hA => ?_
 refine wpList_nil ?_
 refine hK3 _ _ ?_
 clear hK3
 replace hA := hA.s5 16 5 4 0 1
 refine cond_f hA rfl ?_
 refine wp_skip ?_
 refine hK2 _ _ ?_
 clear hK2
 replace hA := hA.s4 5 4 0 1
 refine wp_seq_k fun K4 hK4 => ?_
 refine wp_region_lit ?_
 refine mv hA fun a hA => ?_
 refine mv hA fun a hA => ?_
 refine mv hA fun a hA => ?_
 refine sq hA (q_addI (n := 4) rfl rfl (by omega)) rfl fun a hA => ?_
 obtain ⟨v_t22, hv_t22, hO_t22⟩ := Rm.cut hr (i) (i + 4) (by first | omega | (simp; omega) | (simp [*]; omega)) (by first | omega | (simp; omega) | (simp [*]; omega))
 refine sq hA (q_slice Tryd.underlying32 ti5 rfl (i) (i + 4) hv_t22 (Rd.shp hr) rfl rfl (rfl) (rfl) (by first | omega | (simp; omega) | (simp [*]; omega)) (by first | omega | (simp; omega) | (simp [*]; omega))) rfl fun a hA => ?_
 refine sl hA (lo_call fn74 rfl (number_any _ _ (hH.rd hO_t22) (by simp; omega))) rfl ?_
 rintro _ w ⟨rfl, hC⟩ a hA
 replace hH := HS.call0 hH hC
 clear hC
 refine mv hA fun a hA => ?_
 refine sq hA (q_extract rfl rfl) rfl fun a hA => ?_
 refine sq hA (q_extract rfl rfl) rfl fun a hA => ?_
 refine asg hA fun a hA => ?_
 refine asg hA fun a hA => ?_
 refine wpList_nil ?_
 refine hK4 _ _ ?_
 clear hK4
 replace hA := hA.s4 7 6 5 4
 refine wp_seq_k fun K5 hK5 => ?_
 refine wp_region_lit ?_
 refine mv hA fun a hA => ?_
 refine sq hA (q_cv64_32 Tryd.underlying91 Tryd.underlying119 rfl) rfl fun a hA => ?_
 refine mv hA fun a hA => ?_
 refine asg hA fun a hA => ?_
 refine asg hA fun a hA => ?_
 refine wpList_nil ?_
 refine hK5 _ _ ?_
 clear hK5
 replace hA := hA.s2 5 4
 refine wp_ret ?_
 refine post_ret hA (res_2 rfl hA rfl rfl) ?_
 refine ⟨_, rfl, ?_, hH⟩
 rw [word, show i + 4 - i = 4 by omega]

theorem bytes_any {w0 : World} (n : BitVec 64) (k : Nat) (hk : k ≤ 8) :
    Calls Tryd.prog 82 #[U64 n, I k] w0 (Ret fun r w' => ∃ v N, r = .tuple #[v, I 0] ∧ Ow B8 5 v (beB n k) N ∧ HS [] w0 w' [N]) := by
 have hH := HS.start w0
 refine start (n := 33) (E := [(0, _), (1, _)]) Tryd.func82 rfl rfl rfl (args_look rfl) ?_
 intro a hA
 refine wp_seq_k fun K1 hK1 => ?_
 refine wp_region_lit ?_
 refine asg hA fun a hA => ?_
 refine asg hA fun a hA => ?_
 refine wpList_nil ?_
 refine hK1 _ _ ?_
 clear hK1
 refine wp_seq_k fun K2 hK2 => ?_
 refine wp_seq_k fun K3 hK3 => ?_
 refine wp_region_lit ?_
 refine mv hA fun a hA => ?_
 refine sq hA (Runs.bf (q_lssI (n := 0) rfl rfl) (by omega)) rfl fun a hA => ?_
 refine mv hA fun a hA => ?_
 refine gq hA rfl rfl (q_move rfl) rfl fun a hA => ?_
 refine gq hA rfl rfl (Runs.bf (q_gtrI (n := 8) rfl rfl) (by omega)) rfl fun a hA => ?_
 refine sq hA (q_pick_f rfl rfl) rfl fun a hA => ?_
 refine wpList_nil ?_
 refine hK3 _ _ ?_
 clear hK3
 replace hA := hA.s5 13 5 4 0 1
 refine cond_f hA rfl ?_
 refine wp_skip ?_
 refine hK2 _ _ ?_
 clear hK2
 replace hA := hA.s4 5 4 0 1
 refine wp_seq_k fun K4 hK4 => ?_
 refine wp_region_lit ?_
 refine mv hA fun a hA => ?_
 refine sl hA (lo_make (n := k) hH Tryd.underlying32 ti5 rfl rfl rfl (rfl) (by omega) (by omega)) rfl ?_
 clear hH; rintro v_t15 w ⟨N_t15, hO_t15, hH⟩ a hA
 replace hO_t15 : Ow B8 5 v_t15 (List.replicate k 0#8) N_t15 := by simpa [Ow, cells_B8, flat_replicate] using hO_t15
 refine asg hA fun a hA => ?_
 refine wpList_nil ?_
 refine hK4 _ _ ?_
 clear hK4
 replace hA := hA.s5 6 5 4 0 1
 refine wp_seq_k fun K5 hK5 => ?_
 refine wp_seq_k fun K6 hK6 => ?_
 refine wp_region_lit ?_
 refine mv hA fun a hA => ?_
 refine mv hA fun a hA => ?_
 refine wpList_nil ?_
 refine hK6 _ _ ?_
 clear hK6
 refine wp_block ?_
 refine wp_loop_ghost (fun gm a w => ∃ i : Nat, ∃ N_t15 : Hl, At 33 [(17, I i), (16, I k), (6, v_t15), (5, I 0), (4, (.slice none 0 0)), (0, U64 n), (1, (I k))] a ∧ HS [] w0 w ([N_t15]) ∧ (i ≤ k) ∧ (Ow B8 5 v_t15 (List.replicate (k - i) 0#8 ++ beB n i) N_t15) ∧ gm = k - i) (k - (0)) ⟨0, N_t15, hA.sub ⟨rfl, rfl, rfl, rfl, rfl, rfl, rfl, trivial⟩, hH, by omega, by simpa [beB] using hO_t15, rfl⟩ ?_
 clear hA hH
 rintro gm a w ⟨i, N_t15, hA, hH, hi, hO_t15, rfl⟩
 refine wp_seq_k fun K7 hK7 => ?_
 refine wp_region_lit ?_
 refine sq hA (q_lssI rfl rfl) rfl fun a hA => ?_
 refine wpList_nil ?_
 refine hK7 _ _ ?_
 clear hK7
 refine wp_seq_k fun K8 hK8 => ?_
 refine cond_d hA rfl (fun hc18 => ?_) (fun hc18 => ?_)
 ·skip
  refine wp_skip ?_
  refine hK8 _ _ ?_
  clear hK8
  refine wp_seq_k fun K9 hK9 => ?_
  refine wp_block ?_
  refine wp_seq_k fun K10 hK10 => ?_
  refine wp_region_lit ?_
  refine mv hA fun a hA => ?_
  refine asg hA fun a hA => ?_
  refine wpList_nil ?_
  refine hK10 _ _ ?_
  clear hK10
  refine wp_region_lit ?_
  refine mv hA fun a hA => ?_
  refine mv hA fun a hA => ?_
  refine sq hA (q_subI (n := 1) rfl rfl (by omega)) rfl fun a hA => ?_
  refine mv hA fun a hA => ?_
  refine sq hA (q_subI rfl rfl (by omega)) rfl fun a hA => ?_
  refine mv hA fun a hA => ?_
  refine mv hA fun a hA => ?_
  refine sq hA (q_mulI (m := 8) rfl rfl (by omega)) rfl fun a hA => ?_
  refine sq hA (q_shr64 (n := 8 * i) rfl rfl) rfl fun a hA => ?_
  refine sq hA (q_cv64_8 Tryd.underlying91 Tryd.underlying5 rfl) rfl fun a hA => ?_
  refine sq hA (q_idx1 (k - 1 - i) Tryd.underlying32 ti5 rfl rfl (by first | omega | rfl) (Own.shp hO_t15) (by simp [beB_length]; omega)) rfl fun a hA => ?_
  refine s0 hA (lo_storeO hH hO_t15 ti5 rfl rfl (by simp [beB_length]; omega) rfl) ?_
  clear hH; rintro _ w ⟨N_t15, hO_t15, hH⟩
  refine wpList_nil ?_
  refine block_normal ?_
  refine hK9 _ _ ?_
  clear hK9
  refine wp_region_lit ?_
  refine sq hA (q_addI (n := 1) rfl rfl (by omega)) rfl fun a hA => ?_
  refine mv hA fun a hA => ?_
  refine wpList_nil ?_
  exact ⟨_, by omega, i + 1, N_t15, hA.sub ⟨rfl, rfl, rfl, rfl, rfl, rfl, rfl, trivial⟩, hH, by omega, by (rw [← beB_set n (by omega)]; exact hO_t15), rfl⟩
 ·skip
  refine wp_exit ?_
  refine then_exit ?_
  refine then_exit ?_
  refine exit_here ?_
  refine hK5 _ _ ?_
  clear hK5
  replace hA := hA.s3 6 5 4
  refine wp_seq_k fun K11 hK11 => ?_
  refine wp_region_lit ?_
  refine mv hA fun a hA => ?_
  refine asg hA fun a hA => ?_
  refine asg hA fun a hA => ?_
  refine wpList_nil ?_
  refine hK11 _ _ ?_
  clear hK11
  replace hA := hA.s2 5 4
  refine wp_ret ?_
  refine post_ret hA (res_2 rfl hA rfl rfl) ?_
  have : i = k := by omega
  subst this; exact ⟨_, rfl, _, _, rfl, by simpa using hO_t15, hH⟩

theorem same_any {w0 : World} (u v : Value) (p q : List (BitVec 8)) (hp : By [] w0 u p) (hq : By [] w0 v q) (hl : p.length ≤ 4194304) (hm : q.length ≤ 4194304) :
    Calls Tryd.prog 21 #[u, v] w0 (Ret fun r w' => r = .bool (decide (p = q)) ∧ HS [] w0 w' []) := by
 have hH := HS.start w0
 refine start (n := 26) (E := [(0, _), (1, _)]) Tryd.func21 rfl rfl rfl (args_look rfl) ?_
 intro a hA
 refine wp_seq_k fun K1 hK1 => ?_
 refine wp_region_lit ?_
 refine asg hA fun a hA => ?_
 refine wpList_nil ?_
 refine hK1 _ _ ?_
 clear hK1
 refine wp_seq_k fun K2 hK2 => ?_
 refine wp_seq_k fun K3 hK3 => ?_
 refine wp_region_lit ?_
 refine mv hA fun a hA => ?_
 refine sq hA (q_len Tryd.underlying32 rfl (Rd.shp hp)) rfl fun a hA => ?_
 refine mv hA fun a hA => ?_
 refine sq hA (q_len Tryd.underlying32 rfl (Rd.shp hq)) rfl fun a hA => ?_
 refine sq hA (q_neqI rfl rfl) rfl fun a hA => ?_
 refine wpList_nil ?_
 refine hK3 _ _ ?_
 clear hK3
 replace hA := hA.s4 10 4 0 1
 refine cond_d hA rfl (fun hc10 => ?_) (fun hc10 => ?_)
 ·skip
  have hne : ¬ p = q := fun e => hc10 (by rw [e])
  refine wp_seq_k fun K4 hK4 => ?_
  refine wp_region_lit ?_
  refine asg hA fun a hA => ?_
  refine wpList_nil ?_
  refine hK4 _ _ ?_
  clear hK4
  replace hA := hA.s3 4 0 1
  refine wp_ret ?_
  refine then_ret ?_
  refine post_ret hA (res_1 rfl hA rfl) ?_
  exact ⟨_, rfl, by simp [hne], hH⟩
 ·skip
  have hlen : p.length = q.length := by omega
  refine wp_skip ?_
  refine hK2 _ _ ?_
  clear hK2
  replace hA := hA.s3 4 0 1
  refine wp_seq_k fun K5 hK5 => ?_
  refine wp_seq_k fun K6 hK6 => ?_
  refine wp_region_lit ?_
  refine asg hA fun a hA => ?_
  refine wpList_nil ?_
  refine hK6 _ _ ?_
  clear hK6
  refine wp_block ?_
  refine wp_loop_ghost (fun gm a w => ∃ i : Nat, At 26 [(5, I i), (4, (.bool false)), (0, u), (1, v)] a ∧ HS [] w0 w ([]) ∧ (i ≤ p.length) ∧ (p.take i = q.take i) ∧ gm = p.length - i) (p.length - (0)) ⟨0, hA.sub ⟨rfl, rfl, rfl, rfl, trivial⟩, hH, by omega, by simp, rfl⟩ ?_
  clear hA hH
  rintro gm a w ⟨i, hA, hH, hi, ht, rfl⟩
  refine wp_seq_k fun K7 hK7 => ?_
  refine wp_seq_k fun K8 hK8 => ?_
  refine wp_region_lit ?_
  refine mv hA fun a hA => ?_
  refine mv hA fun a hA => ?_
  refine sq hA (q_len Tryd.underlying32 rfl (Rd.shp hp)) rfl fun a hA => ?_
  refine sq hA (q_lssI rfl rfl) rfl fun a hA => ?_
  refine wpList_nil ?_
  refine hK8 _ _ ?_
  clear hK8
  refine cond_d hA rfl (fun hc14 => ?_) (fun hc14 => ?_)
  ·skip
   refine wp_skip ?_
   refine hK7 _ _ ?_
   clear hK7
   refine wp_seq_k fun K9 hK9 => ?_
   refine wp_block ?_
   refine wp_seq_k fun K10 hK10 => ?_
   refine any_go mixed (fun _ => true) hH ?_
   clear hH; intro w hH
   have hS := hH
   refine any_l 9 ?_
   refine p0 hA 0 1 rfl (fun w => (q_move rfl)) fun a hA => ?_
   refine p0 hA 1 3 rfl (fun w => (q_move rfl)) fun a hA => ?_
   refine p0 hA 2 7 rfl (fun w => (q_idx1 (i) Tryd.underlying32 ti5 rfl rfl (by first | omega | rfl) (Rd.shp hp) (by first | omega | (simp; done) | (simp; omega) | (rw [List.length_map]; assumption) | assumption | rfl | (simp [*]; done) | (simp [*]; omega)))) fun a hA => ?_
   refine r0 hA 3 15 rfl hS (fun w hH => (q_loadRm (0#8) Tryd.underlying5 rfl rfl (hH.rd hp) (by first | omega | (simp; done) | (simp; omega) | (rw [List.length_map]; assumption) | assumption | rfl | (simp [*]; done) | (simp [*]; omega)))) fun a hA => ?_
   refine p0 hA 4 31 rfl (fun w => (q_move rfl)) fun a hA => ?_
   refine p0 hA 5 63 rfl (fun w => (q_move rfl)) fun a hA => ?_
   refine p0 hA 6 127 rfl (fun w => (q_idx1 (i) Tryd.underlying32 ti5 rfl rfl (by first | omega | rfl) (Rd.shp hq) (by first | omega | (simp; done) | (simp; omega) | (rw [List.length_map]; assumption) | assumption | rfl | (simp [*]; done) | (simp [*]; omega)))) fun a hA => ?_
   refine r0 hA 7 255 rfl hS (fun w hH => (q_loadRm (0#8) Tryd.underlying5 rfl rfl (hH.rd hq) (by first | omega | (simp; done) | (simp; omega) | (rw [List.length_map]; assumption) | assumption | rfl | (simp [*]; done) | (simp [*]; omega)))) fun a hA => ?_
   refine p0 hA 8 511 rfl (fun w => (q_neq8 rfl rfl)) fun a hA => ?_
   refine a_end (by kernel_rfl) ?_ _
   refine hK10 _ _ ?_
   clear hK10
   refine cond_d hA rfl (fun hc25 => ?_) (fun hc25 => ?_)
   ·skip
    have hne : ¬ p = q := fun e => hc25 (by rw [e])
    refine wp_seq_k fun K11 hK11 => ?_
    refine wp_region_lit ?_
    refine asg hA fun a hA => ?_
    refine wpList_nil ?_
    refine hK11 _ _ ?_
    clear hK11
    refine wp_ret ?_
    refine block_ret ?_
    refine then_ret ?_
    refine then_ret ?_
    refine block_ret ?_
    refine then_ret ?_
    refine post_ret hA (res_1 rfl hA rfl) ?_
    exact ⟨_, rfl, by simp [hne], hH⟩
   ·skip
    have heq : p.getD i 0#8 = q.getD i 0#8 := by simpa using hc25
    refine wp_skip ?_
    refine block_normal ?_
    refine hK9 _ _ ?_
    clear hK9
    refine wp_region_lit ?_
    refine mv hA fun a hA => ?_
    refine sq hA (q_addI (n := 1) rfl rfl (by omega)) rfl fun a hA => ?_
    refine asg hA fun a hA => ?_
    refine wpList_nil ?_
    exact ⟨_, by omega, i + 1, hA.sub ⟨rfl, rfl, rfl, rfl, trivial⟩, hH, by omega, by (rw [take_snoc p (by omega), take_snoc q (by omega), ht, heq]), rfl⟩
  ·skip
   refine wp_exit ?_
   refine then_exit ?_
   refine then_exit ?_
   refine exit_here ?_
   refine hK5 _ _ ?_
   clear hK5
   replace hA := hA.s1 4
   refine wp_seq_k fun K12 hK12 => ?_
   refine wp_region_lit ?_
   refine asg hA fun a hA => ?_
   refine wpList_nil ?_
   refine hK12 _ _ ?_
   clear hK12
   refine wp_ret ?_
   refine post_ret hA (res_1 rfl hA rfl) ?_
   have : i = p.length := by omega
   subst this
   have he : p = q := by have h1 := ht; rw [List.take_length, hlen, List.take_length] at h1; exact h1
   exact ⟨_, rfl, by simp [he], hH⟩

end Go.Proofs.YthhdilafnfcpbaaDoor
