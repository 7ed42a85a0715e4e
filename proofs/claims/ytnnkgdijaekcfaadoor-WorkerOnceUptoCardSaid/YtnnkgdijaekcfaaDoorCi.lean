/- Layer 6 (tree): roots and paths of whatever digests, the program's and the document's. -/
import Derived.Test.YtnnkgdijaekcfaaDoorCc
import Derived.Test.YtnnkgdijaekcfaaDoorMzb
import Derived.Test.YtnnkgdijaekcfaaDoorMzc
import Derived.Test.YtnnkgdijaekcfaaDoorCs
namespace Go.Proofs.YtnnkgdijaekcfaaDoor
open Go
set_option linter.unusedVariables false
set_option linter.unusedSimpArgs false
set_option maxRecDepth 100000



theorem path_any {w0 : World} {lv : Nat} (hg : Gl lv w0) (v : Value) (ls : List Bs) (hd : Dg ls) (hr : RdD [] w0 v ls) (m i : Nat) (hm : m ≤ 10) (hls : ls.length = 2 ^ m) (hi : i < 2 ^ m) :
    Calls Tryd.prog 72 #[v, I i] w0 (Ret fun r w' => ∃ v' N, r = .tuple #[v', I 0] ∧ OwD 24 v' (pth ls i m) N ∧ HS [] w0 w' [N]) := by
 have hH := HS.start w0
 refine start (n := 39) (E := [(0, _), (1, _)]) Tryd.func72 rfl rfl rfl (args_look rfl) ?_
 intro a hA
 have e0 : (i : Int) = ((i / 2 ^ 0 : Nat) : Int) := by simp
 have hpm := pow_le hm
 refine wp_seq_k fun K1 hK1 => ?_
 refine wp_region_lit ?_
 refine asg hA fun a hA => ?_
 refine asg hA fun a hA => ?_
 refine wpList_nil ?_
 refine hK1 _ _ ?_
 clear hK1
 refine wp_seq_k fun K2 hK2 => ?_
 refine wp_seq_k fun K3 hK3 => ?_
 refine wp_region_lit ?_
 refine mv hA fun a hA => ?_
 refine sq hA (q_len Tryd.underlying25 rfl (Rd.shp hr)) rfl fun a hA => ?_
 rw [hls] at hA
 refine sl hA (lo_call fn109 rfl (right_any m hm)) rfl ?_
 rintro _ w ⟨rfl, hC⟩ a hA
 replace hH := HS.call0 hH hC
 clear hC
 refine sq hA (q_not rfl) rfl fun a hA => ?_
 refine mv hA fun a hA => ?_
 refine gq hA rfl rfl (q_move rfl) rfl fun a hA => ?_
 refine gq hA rfl rfl (Runs.bf (q_lssI (n := 0) rfl rfl) (by omega)) rfl fun a hA => ?_
 refine sq hA (q_pick_f rfl rfl) rfl fun a hA => ?_
 refine mv hA fun a hA => ?_
 refine gq hA rfl rfl (q_move rfl) rfl fun a hA => ?_
 refine gq hA rfl rfl (q_move rfl) rfl fun a hA => ?_
 refine gq hA rfl rfl (q_len Tryd.underlying25 rfl (Rd.shp hr)) rfl fun a hA => ?_
 refine gq hA rfl rfl (Runs.bf (q_geqI rfl rfl) (by omega)) rfl fun a hA => ?_
 refine sq hA (q_pick_f rfl rfl) rfl fun a hA => ?_
 refine wpList_nil ?_
 refine hK3 _ _ ?_
 clear hK3
 replace hA := hA.s5 21 5 4 0 1
 refine cond_f hA rfl ?_
 refine wp_skip ?_
 refine hK2 _ _ ?_
 clear hK2
 replace hA := hA.s4 5 4 0 1
 refine wp_seq_k fun K4 hK4 => ?_
 refine wp_region_lit ?_
 refine asg hA fun a hA => ?_
 refine wpList_nil ?_
 refine hK4 _ _ ?_
 clear hK4
 refine wp_seq_k fun K5 hK5 => ?_
 refine wp_seq_k fun K6 hK6 => ?_
 refine wp_region_lit ?_
 refine mv hA fun a hA => ?_
 refine asg hA fun a hA => ?_
 refine wpList_nil ?_
 refine hK6 _ _ ?_
 clear hK6
 replace hA := hA.s5 7 6 5 4 1
 refine wp_block ?_
 rw [e0] at hA
 replace hH := hH.nilFront
 replace hH := hH.nilFront
 replace hH := hH.pick [1, 0] (Hs' := [_, _]) rfl
 refine wp_loop_ghost (fun gm a w => ∃ k : Nat, ∃ v_o : Value, ∃ v_l : Value, ∃ N_o : Hl, ∃ N_l : Hl, At 39 [(7, v_l), (6, v_o), (5, I 0), (4, (.slice none 0 0)), (1, I ((i / 2 ^ k : Nat) : Int))] a ∧ HS [] w0 w ([N_o, N_l]) ∧ (k ≤ m) ∧ (OwD 24 v_o (pth ls i k) N_o) ∧ (RdOr w0 24 32 v_l (lvls ls k).length (dc (lvls ls k)) N_l) ∧ gm = m - k) (m - (0)) ⟨0, (.slice none 0 0), v, [], [], hA.sub ⟨rfl, rfl, rfl, rfl, rfl, trivial⟩, hH, by omega, by exact Own.nil _ _, by exact .inl ⟨rfl, hr⟩, rfl⟩ ?_
 clear hA hH
 rintro gm a w ⟨k, v_o, v_l, N_o, N_l, hA, hH, hk, hO_o, hR_l, rfl⟩
 have hlk := lvls_length hls hk
 have hlkd := lvls_dg hd k
 have hpk := pow_le (m := m - k) (by omega)
 obtain ⟨x, hx⟩ : ∃ x, x = i / 2 ^ k := ⟨_, rfl⟩
 rw [← hx] at hA
 have hxi : x ≤ i := by rw [hx]; exact Nat.div_le_self _ _
 refine wp_seq_k fun K7 hK7 => ?_
 refine wp_seq_k fun K8 hK8 => ?_
 refine wp_region_lit ?_
 refine mv hA fun a hA => ?_
 refine sq hA (q_len Tryd.underlying25 rfl (RdOr.shp hR_l)) rfl fun a hA => ?_
 refine sq hA (q_gtrI (n := 1) rfl rfl) rfl fun a hA => ?_
 refine wpList_nil ?_
 refine hK8 _ _ ?_
 clear hK8
 refine cond_d hA rfl (fun hc25 => ?_) (fun hc25 => ?_)
 ·skip
  have hkm : k < m := by rcases Nat.lt_or_ge k m with h | h; exact h; exfalso; rw [show m - k = 0 by omega] at hlk; omega
  have hxl := idx_lt hi hkm
  rw [← hx] at hxl
  have hxd := hlkd.getD (i := x ^^^ 1) (by omega)
  refine wp_skip ?_
  refine hK7 _ _ ?_
  clear hK7
  refine wp_seq_k fun K9 hK9 => ?_
  refine wp_block ?_
  refine wp_seq_k fun K10 hK10 => ?_
  refine wp_region_lit ?_
  refine mv hA fun a hA => ?_
  refine mv hA fun a hA => ?_
  refine mv hA fun a hA => ?_
  refine sq hA (q_xorI (b := 1) rfl rfl (by omega) (by omega)) rfl fun a hA => ?_
  refine sq hA (q_idxk (x ^^^ 1) Tryd.underlying25 ti24 rfl rfl (by first | omega | rfl) (RdOr.shp hR_l) (by first | omega | (simp; done) | (simp; omega) | (rw [List.length_map]; assumption) | assumption | rfl | (simp [*]; done) | (simp [*]; omega))) rfl fun a hA => ?_
  refine sq hA (q_loadRA (i := x ^^^ 1) Tryd.underlying24 rfl ti24 rfl (RdOr.rd hR_l hH 1 rfl) (by first | omega | (simp; done) | (simp; omega) | (rw [List.length_map]; assumption) | assumption | rfl | (simp [*]; done) | (simp [*]; omega)) _ (dc_at (by assumption) (by first | omega | (simp; done) | (simp; omega) | (rw [List.length_map]; assumption) | assumption | rfl | (simp [*]; done) | (simp [*]; omega)))) rfl fun a hA => ?_
  refine sl hA (lo_buildD (ls := [_]) hH Tryd.underlying25 ti24 rfl rfl rfl (by decide) (by decide) (by first | assumption | exact Dg.one (by first | assumption | (rw [List.length_map]; assumption) | rfl | exact sha_length _ | (simp; done) | (simp [*]; done) | omega) | exact Dg.two (by first | assumption | (rw [List.length_map]; assumption) | rfl | exact sha_length _ | (simp; done) | (simp [*]; done) | omega) (by first | assumption | (rw [List.length_map]; assumption) | rfl | exact sha_length _ | (simp; done) | (simp [*]; done) | omega))) rfl ?_
  clear hH; rintro v_t34 w ⟨N_t34, hO_t34, hH⟩ a hA
  replace hH := hH.pick [1, 0, 2] (Hs' := [_, _, _]) rfl
  refine sl hA (lo_appD hH Tryd.underlying25 Tryd.underlying25 (.inl rfl) ti24 rfl rfl rfl hO_o (Own.rd0 hO_t34 hH 1 rfl) (by first | omega | (simp; omega)) (by first | omega | (simp; omega))) rfl ?_
  clear hH; rintro v_t35 w ⟨N_t35, hO_t35, hH⟩ a hA
  refine asg hA fun a hA => ?_
  refine wpList_nil ?_
  refine hK10 _ _ ?_
  clear hK10
  refine wp_region_lit ?_
  refine mv hA fun a hA => ?_
  refine sq hA (q_shrI (n := 1) 2 rfl rfl (by decide) (by decide) (by omega)) rfl fun a hA => ?_
  rw [show ((x : Nat) : Int) / 2 = ((i / 2 ^ (k + 1) : Nat) : Int) by rw [hx]; exact half_pow i k] at hA
  refine asg hA fun a hA => ?_
  refine wpList_nil ?_
  refine block_normal ?_
  refine hK9 _ _ ?_
  clear hK9
  refine wp_region_lit ?_
  refine mv hA fun a hA => ?_
  refine sl hA (lo_call fn110 rfl (level_any (hg.mono0 hH) v_l (lvls ls k) (lvls_dg hd k) (RdOr.rd hR_l hH 2 rfl) (by omega))) rfl ?_
  rintro _ w ⟨v_t27, N_t27, rfl, hO_t27, hC⟩ a hA
  replace hH := HS.call0 hH hC
  clear hC
  refine asg hA fun a hA => ?_
  refine wpList_nil ?_
  replace hH := hH.pick [1, 0, 2, 3] (Hs' := [_, _, _, _]) rfl
  replace hH := hH.pick [0, 1] (Hs' := [_, _]) rfl
  exact ⟨_, by omega, k + 1, v_t35, v_t27, N_t35, N_t27, hA.sub ⟨rfl, rfl, rfl, rfl, rfl, trivial⟩, hH, by omega, by (rw [pth, ← hx]; exact hO_t35), by exact .inr hO_t27, rfl⟩
 ·skip
  have hke : k = m := by have := pow_one (k := m - k) (by omega); omega
  refine wp_exit ?_
  refine then_exit ?_
  refine then_exit ?_
  refine exit_here ?_
  refine hK5 _ _ ?_
  clear hK5
  replace hA := hA.s3 6 5 4
  refine wp_seq_k fun K11 hK11 => ?_
  refine wp_region_lit ?_
  refine mv hA fun a hA => ?_
  refine asg hA fun a hA => ?_
  refine asg hA fun a hA => ?_
  refine wpList_nil ?_
  refine hK11 _ _ ?_
  clear hK11
  replace hA := hA.s2 5 4
  refine wp_ret ?_
  refine post_ret hA (res_2 rfl hA rfl rfl) ?_
  replace hH := hH.pick [0] (Hs' := [_]) rfl
  exact ⟨_, rfl, v_o, N_o, rfl, hke ▸ hO_o, hH⟩

end Go.Proofs.YtnnkgdijaekcfaaDoor
