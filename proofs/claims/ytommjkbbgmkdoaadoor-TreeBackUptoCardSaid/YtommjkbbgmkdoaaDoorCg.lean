/- Layer 6 (tree): cut. -/
import Derived.Test.YtommjkbbgmkdoaaDoorCc
import Derived.Test.YtommjkbbgmkdoaaDoorMu
namespace Go.Proofs.YtommjkbbgmkdoaaDoor
open Go
set_option linter.unusedVariables false
set_option linter.unusedSimpArgs false
set_option maxRecDepth 100000

theorem pow_lt6 {m : Nat} (h : 2 ^ m < 64) : m < 6 := (Nat.pow_lt_pow_iff_right (a := 2) (by decide)).1 (by simpa using h)
theorem cut_any {w0 : World} (v : Value) (ls : List Bs) (hd : Dg ls) (hr : RdD [] w0 v ls) (hl : ls.length ≤ 1048576) :
    Calls Tryd.prog 21 #[v] w0 (Ret fun r w' => ∃ v' N ds' m, v' = r ∧ OwD 24 v' ds' N ∧ Dg ds' ∧ ds'.length = 2 ^ m ∧ m ≤ 6 ∧ HS [] w0 w' [N]) := by
  have hH := HS.start w0
  refine start (n := 24) (E := [(0, _)]) Tryd.func21 rfl rfl rfl (args_look rfl) ?_
  intro a hA
  refine wp_seq_k fun K1 hK1 => ?_
  refine wp_region_lit ?_
  refine sq hA (q_assign rfl) rfl fun a hA => ?_
  refine wpList_nil ?_
  refine hK1 _ _ ?_
  clear hK1
  refine wp_seq_k fun K2 hK2 => ?_
  refine wp_region_lit ?_
  refine sq hA (q_assign rfl) rfl fun a hA => ?_
  refine wpList_nil ?_
  refine hK2 _ _ ?_
  clear hK2
  refine wp_seq_k fun K3 hK3 => ?_
  refine wp_block ?_
  refine wp_loop_ghost (fun gm a w => ∃ m : Nat, At 24 [(3, I ((2 ^ m : Nat) : Int)), (2, (.slice none 0 0)), (0, v)] a ∧ HS [] w0 w ([]) ∧ (m ≤ 6) ∧ (m = 0 ∨ 2 ^ m ≤ ls.length) ∧ gm = 6 - m) (6 - (0)) ⟨0, hA.sub ⟨rfl, rfl, rfl, trivial⟩, hH, by omega, by exact .inl rfl, rfl⟩ ?_
  clear hA hH
  rintro gm a w ⟨m, hA, hH, hm, hml, rfl⟩
  have hpw := Nat.pow_pos (n := m) (show 0 < 2 by decide)
  have hpu : 2 ^ m ≤ 64 := Nat.pow_le_pow_right (n := 2) (by decide) hm
  refine wp_seq_k fun K4 hK4 => ?_
  refine wp_seq_k fun K5 hK5 => ?_
  refine wp_region_lit ?_
  refine sq hA (q_move rfl) rfl fun a hA => ?_
  refine sq hA (q_mulI (m := 2) rfl rfl (by omega)) rfl fun a hA => ?_
  refine sq hA (q_move rfl) rfl fun a hA => ?_
  refine sq hA (q_len Tryd.underlying22 rfl (Rd.shp hr)) rfl fun a hA => ?_
  rcases Classical.em (2 * 2 ^ m ≤ ls.length) with hs8 | hs8
  · skip
    refine sq hA (Runs.bt (q_leqI rfl rfl) (by omega)) rfl fun a hA => ?_
    refine sq hA (q_move rfl) rfl fun a hA => ?_
    refine gq hA rfl rfl (q_move rfl) rfl fun a hA => ?_
    rcases Classical.em (2 ^ m < 64) with hs11 | hs11
    · skip
      refine gq hA rfl rfl (Runs.bt (q_lssI (n := 64) rfl rfl) (by omega)) rfl fun a hA => ?_
      refine sq hA (q_pick_t rfl rfl) rfl fun a hA => ?_
      refine wpList_nil ?_
      refine hK5 _ _ ?_
      clear hK5
      refine cond_t hA rfl ?_
      refine wp_skip ?_
      refine hK4 _ _ ?_
      clear hK4
      refine wp_block ?_
      refine wp_region_lit ?_
      refine sq hA (q_move rfl) rfl fun a hA => ?_
      refine sq hA (q_mulI (m := 2) rfl rfl (by omega)) rfl fun a hA => ?_
      rw [show (2 : Int) * ((2 ^ m : Nat) : Int) = ((2 ^ (m + 1) : Nat) : Int) by rw [Nat.pow_succ]; omega] at hA
      have hm6 := pow_lt6 (m := m) (by omega)
      refine sq hA (q_assign rfl) rfl fun a hA => ?_
      refine wpList_nil ?_
      refine block_normal ?_
      exact ⟨_, by omega, m + 1, hA.sub ⟨rfl, rfl, rfl, trivial⟩, hH, by omega, by (right; rw [Nat.pow_succ]; omega), rfl⟩
    · skip
      refine gq hA rfl rfl (Runs.bf (q_lssI (n := 64) rfl rfl) (by omega)) rfl fun a hA => ?_
      refine sq hA (q_pick_t rfl rfl) rfl fun a hA => ?_
      refine wpList_nil ?_
      refine hK5 _ _ ?_
      clear hK5
      refine cond_f hA rfl ?_
      refine wp_exit ?_
      refine then_exit ?_
      refine then_exit ?_
      refine exit_here ?_
      refine hK3 _ _ ?_
      clear hK3
      replace hA := hA.sub (E' := [(3, _), (2, _), (0, _)]) ⟨rfl, rfl, rfl, trivial⟩
      refine wp_seq_k fun K6 hK6 => ?_
      refine wp_seq_k fun K7 hK7 => ?_
      refine wp_region_lit ?_
      refine sq hA (q_move rfl) rfl fun a hA => ?_
      refine sq hA (q_len Tryd.underlying22 rfl (Rd.shp hr)) rfl fun a hA => ?_
      refine sq hA (q_eqlI (n := 0) rfl rfl) rfl fun a hA => ?_
      refine wpList_nil ?_
      refine hK7 _ _ ?_
      clear hK7
      replace hA := hA.sub (E' := [(17, _), (3, _), (2, _), (0, _)]) ⟨rfl, rfl, rfl, rfl, trivial⟩
      refine cond_d hA rfl (fun hc17 => ?_) (fun hc17 => ?_)
      · skip
        refine wp_seq_k fun K8 hK8 => ?_
        refine wp_region_lit ?_
        refine sq hA (q_build (v := (.agg ((((List.replicate 32 0#8).set 0 7#8)).map B8).toArray)) (vs := [(0, B8 7#8)]) rfl (fun w => by kernel_rfl)) rfl fun a hA => ?_
        refine sl hA (lo_buildSlice (e := 24) (k := 32) (bb := 0) (z := undef) (cs := dc [((List.replicate 32 0#8).set 0 7#8)]) (vs := [(0, (.agg ((((List.replicate 32 0#8).set 0 7#8)).map B8).toArray))]) hH rfl rfl (fun w => by kernel_rfl)) rfl ?_
        clear hH; rintro v_t19 w ⟨N_t19, hO_t19, hH⟩ a hA
        refine sq hA (q_assign rfl) rfl fun a hA => ?_
        refine wpList_nil ?_
        refine hK8 _ _ ?_
        clear hK8
        replace hA := hA.sub (E' := [(2, _), (3, _), (0, _)]) ⟨rfl, rfl, rfl, trivial⟩
        refine wp_ret ?_
        refine then_ret ?_
        refine post_ret hA (res_1 rfl hA rfl) ?_
        exact ⟨_, rfl, v_t19, N_t19, [((List.replicate 32 0#8).set 0 7#8)], 0, rfl, by simpa [OwD] using hO_t19, by simp [Dg], rfl, by decide, hH⟩
      · skip
        have h1 : 2 ^ m ≤ ls.length := by rcases hml with h | h; (rw [h]; omega); exact h
        refine wp_skip ?_
        refine hK6 _ _ ?_
        clear hK6
        replace hA := hA.sub (E' := [(3, _), (2, _), (0, _)]) ⟨rfl, rfl, rfl, trivial⟩
        refine wp_seq_k fun K9 hK9 => ?_
        refine wp_region_lit ?_
        refine sq hA (q_move rfl) rfl fun a hA => ?_
        refine sq hA (q_move rfl) rfl fun a hA => ?_
        obtain ⟨v_t22, hv_t22, hO_t22⟩ := Rd.cut hr (0) (2 ^ m) (by omega) (by omega)
        replace hO_t22 : RdD [] w0 v_t22 (ls.take (2 ^ m)) := RdD.takeOf hd (by omega) hO_t22
        refine sq hA (q_slice Tryd.underlying22 ti24 rfl (0) (2 ^ m) hv_t22 (Rd.shp hr) rfl rfl (rfl) (rfl) (by omega) (by omega)) rfl fun a hA => ?_
        refine sl hA (lo_call fn17 rfl (own6_any _ (ls.take (2 ^ m)) (hd.take _) (hH.rd hO_t22) (by rw [List.length_take]; omega))) rfl ?_
        rintro _ w ⟨v_t23, N_t23, rfl, hO_t23, hC⟩ a hA
        replace hH := HS.call0 hH hC
        clear hC
        refine sq hA (q_assign rfl) rfl fun a hA => ?_
        refine wpList_nil ?_
        refine hK9 _ _ ?_
        clear hK9
        replace hA := hA.sub (E' := [(2, _)]) ⟨rfl, trivial⟩
        refine wp_ret ?_
        refine post_ret hA (res_1 rfl hA rfl) ?_
        exact ⟨_, rfl, v_t23, N_t23, ls.take (2 ^ m), m, rfl, hO_t23, hd.take _, by rw [List.length_take]; omega, hm, hH⟩
  · skip
    refine sq hA (Runs.bf (q_leqI rfl rfl) (by omega)) rfl fun a hA => ?_
    refine sq hA (q_move rfl) rfl fun a hA => ?_
    refine gs hA rfl rfl rfl rfl fun a hA => ?_
    refine gs hA rfl rfl rfl rfl fun a hA => ?_
    refine sq hA (q_pick_f rfl rfl) rfl fun a hA => ?_
    refine wpList_nil ?_
    refine hK5 _ _ ?_
    clear hK5
    refine cond_f hA rfl ?_
    refine wp_exit ?_
    refine then_exit ?_
    refine then_exit ?_
    refine exit_here ?_
    refine hK3 _ _ ?_
    clear hK3
    replace hA := hA.sub (E' := [(3, _), (2, _), (0, _)]) ⟨rfl, rfl, rfl, trivial⟩
    refine wp_seq_k fun K10 hK10 => ?_
    refine wp_seq_k fun K11 hK11 => ?_
    refine wp_region_lit ?_
    refine sq hA (q_move rfl) rfl fun a hA => ?_
    refine sq hA (q_len Tryd.underlying22 rfl (Rd.shp hr)) rfl fun a hA => ?_
    refine sq hA (q_eqlI (n := 0) rfl rfl) rfl fun a hA => ?_
    refine wpList_nil ?_
    refine hK11 _ _ ?_
    clear hK11
    replace hA := hA.sub (E' := [(17, _), (3, _), (2, _), (0, _)]) ⟨rfl, rfl, rfl, rfl, trivial⟩
    refine cond_d hA rfl (fun hc17 => ?_) (fun hc17 => ?_)
    · skip
      refine wp_seq_k fun K12 hK12 => ?_
      refine wp_region_lit ?_
      refine sq hA (q_build (v := (.agg ((((List.replicate 32 0#8).set 0 7#8)).map B8).toArray)) (vs := [(0, B8 7#8)]) rfl (fun w => by kernel_rfl)) rfl fun a hA => ?_
      refine sl hA (lo_buildSlice (e := 24) (k := 32) (bb := 0) (z := undef) (cs := dc [((List.replicate 32 0#8).set 0 7#8)]) (vs := [(0, (.agg ((((List.replicate 32 0#8).set 0 7#8)).map B8).toArray))]) hH rfl rfl (fun w => by kernel_rfl)) rfl ?_
      clear hH; rintro v_t19 w ⟨N_t19, hO_t19, hH⟩ a hA
      refine sq hA (q_assign rfl) rfl fun a hA => ?_
      refine wpList_nil ?_
      refine hK12 _ _ ?_
      clear hK12
      replace hA := hA.sub (E' := [(2, _), (3, _), (0, _)]) ⟨rfl, rfl, rfl, trivial⟩
      refine wp_ret ?_
      refine then_ret ?_
      refine post_ret hA (res_1 rfl hA rfl) ?_
      exact ⟨_, rfl, v_t19, N_t19, [((List.replicate 32 0#8).set 0 7#8)], 0, rfl, by simpa [OwD] using hO_t19, by simp [Dg], rfl, by decide, hH⟩
    · skip
      have h1 : 2 ^ m ≤ ls.length := by rcases hml with h | h; (rw [h]; omega); exact h
      refine wp_skip ?_
      refine hK10 _ _ ?_
      clear hK10
      replace hA := hA.sub (E' := [(3, _), (2, _), (0, _)]) ⟨rfl, rfl, rfl, trivial⟩
      refine wp_seq_k fun K13 hK13 => ?_
      refine wp_region_lit ?_
      refine sq hA (q_move rfl) rfl fun a hA => ?_
      refine sq hA (q_move rfl) rfl fun a hA => ?_
      obtain ⟨v_t22, hv_t22, hO_t22⟩ := Rd.cut hr (0) (2 ^ m) (by omega) (by omega)
      replace hO_t22 : RdD [] w0 v_t22 (ls.take (2 ^ m)) := RdD.takeOf hd (by omega) hO_t22
      refine sq hA (q_slice Tryd.underlying22 ti24 rfl (0) (2 ^ m) hv_t22 (Rd.shp hr) rfl rfl (rfl) (rfl) (by omega) (by omega)) rfl fun a hA => ?_
      refine sl hA (lo_call fn17 rfl (own6_any _ (ls.take (2 ^ m)) (hd.take _) (hH.rd hO_t22) (by rw [List.length_take]; omega))) rfl ?_
      rintro _ w ⟨v_t23, N_t23, rfl, hO_t23, hC⟩ a hA
      replace hH := HS.call0 hH hC
      clear hC
      refine sq hA (q_assign rfl) rfl fun a hA => ?_
      refine wpList_nil ?_
      refine hK13 _ _ ?_
      clear hK13
      replace hA := hA.sub (E' := [(2, _)]) ⟨rfl, trivial⟩
      refine wp_ret ?_
      refine post_ret hA (res_1 rfl hA rfl) ?_
      exact ⟨_, rfl, v_t23, N_t23, ls.take (2 ^ m), m, rfl, hO_t23, hd.take _, by rw [List.length_take]; omega, hm, hH⟩

end Go.Proofs.YtommjkbbgmkdoaaDoor
