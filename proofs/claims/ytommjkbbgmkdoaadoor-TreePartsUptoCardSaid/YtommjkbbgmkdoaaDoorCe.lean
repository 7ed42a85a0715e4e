/- Layer 6 (tree): the law TreeParts. -/
import Derived.Test.YtommjkbbgmkdoaaDoorCd
import Derived.Test.YtommjkbbgmkdoaaDoorMu
namespace Go.Proofs.YtommjkbbgmkdoaaDoor
open Go
set_option linter.unusedVariables false
set_option linter.unusedSimpArgs false
set_option maxRecDepth 100000

theorem treeParts_bad {w0 : World} {lv : Nat} (hg : Gl lv w0) (p : Bs) (i : Int) (v : Value) (ds : List Bs) (k : Int) (hp : p.length = 32) (hd : Dg ds) (hr : RdD [] w0 v ds) (hl : ds.length ≤ 1048576) (hbad : 10 < ds.length ∨ i < 0 ∨ (2 : Int) ^ ds.length ≤ i ∨ k < 0 ∨ ds.length < k) :
    Calls Tryd.prog 7 #[(.agg ((p).map B8).toArray), I i, v, I k] w0 (Ret fun r w' => r = .bool true ∧ HS [] w0 w' []) := by
  have hH := HS.start w0
  refine start (n := 92) (E := [(0, _), (1, _), (2, _), (3, _)]) Tryd.func7 rfl rfl rfl (args_look rfl) ?_
  intro a hA
  have hpw : ds.length ≤ 10 → (2 : Int) ^ ds.length ≤ 1024 := fun h => by exact_mod_cast pow_le h
  have hpp : (0 : Int) < 2 ^ ds.length := Int.pow_pos (by decide)
  refine wp_seq_k fun K1 hK1 => ?_
  refine wp_region_lit ?_
  refine sl hA (lo_boxA hH rfl) rfl ?_
  clear hH; rintro _ w ⟨b_t4, rfl, hH⟩ a hA
  refine sq hA (q_assign rfl) rfl fun a hA => ?_
  refine wpList_nil ?_
  refine hK1 _ _ ?_
  clear hK1
  replace hA := hA.sub (E' := [(8, _), (4, _), (1, _), (2, _), (3, _)]) ⟨rfl, rfl, rfl, rfl, rfl, trivial⟩
  refine wp_seq_k fun K2 hK2 => ?_
  refine wp_seq_k fun K3 hK3 => ?_
  refine wp_region_lit ?_
  refine sq hA (q_move rfl) rfl fun a hA => ?_
  refine sq hA (q_len Tryd.underlying22 rfl (Rd.shp hr)) rfl fun a hA => ?_
  rcases Classical.em (10 < ds.length) with hs17 | hs17
  · skip
    refine sq hA (Runs.bt (q_gtrI (n := 10) rfl rfl) (by omega)) rfl fun a hA => ?_
    refine sq hA (q_move rfl) rfl fun a hA => ?_
    refine gs hA rfl rfl rfl rfl fun a hA => ?_
    refine gs hA rfl rfl rfl rfl fun a hA => ?_
    refine sq hA (q_pick_t rfl rfl) rfl fun a hA => ?_
    refine sq hA (q_move rfl) rfl fun a hA => ?_
    refine gs hA rfl rfl rfl rfl fun a hA => ?_
    refine gs hA rfl rfl rfl rfl fun a hA => ?_
    refine gs hA rfl rfl rfl rfl fun a hA => ?_
    refine gs hA rfl rfl rfl rfl fun a hA => ?_
    refine gs hA rfl rfl rfl rfl fun a hA => ?_
    refine sq hA (q_pick_t rfl rfl) rfl fun a hA => ?_
    refine sq hA (q_move rfl) rfl fun a hA => ?_
    refine gs hA rfl rfl rfl rfl fun a hA => ?_
    refine gs hA rfl rfl rfl rfl fun a hA => ?_
    refine sq hA (q_pick_t rfl rfl) rfl fun a hA => ?_
    refine sq hA (q_move rfl) rfl fun a hA => ?_
    refine gs hA rfl rfl rfl rfl fun a hA => ?_
    refine gs hA rfl rfl rfl rfl fun a hA => ?_
    refine gs hA rfl rfl rfl rfl fun a hA => ?_
    refine gs hA rfl rfl rfl rfl fun a hA => ?_
    refine sq hA (q_pick_t rfl rfl) rfl fun a hA => ?_
    refine wpList_nil ?_
    refine hK3 _ _ ?_
    clear hK3
    replace hA := hA.sub (E' := [(38, _), (8, _), (4, _), (1, _), (2, _), (3, _)]) ⟨rfl, rfl, rfl, rfl, rfl, rfl, trivial⟩
    refine cond_t hA rfl ?_
    refine wp_seq_k fun K4 hK4 => ?_
    refine wp_region_lit ?_
    refine sl hA (lo_call fn15 rfl (awake6_any (hg.mono0 hH))) rfl ?_
    rintro _ w ⟨rfl, hC⟩ a hA
    replace hH := HS.call0 hH hC
    clear hC
    refine sq hA (q_assign rfl) rfl fun a hA => ?_
    refine wpList_nil ?_
    refine hK4 _ _ ?_
    clear hK4
    replace hA := hA.sub (E' := [(8, _), (4, _), (1, _), (2, _), (3, _)]) ⟨rfl, rfl, rfl, rfl, rfl, trivial⟩
    refine wp_ret ?_
    refine then_ret ?_
    refine post_ret hA (res_1 rfl hA rfl) ?_
    replace hH := hH.pick [] (Hs' := []) rfl
    exact ⟨_, rfl, rfl, hH⟩
  · skip
    refine sq hA (Runs.bf (q_gtrI (n := 10) rfl rfl) (by omega)) rfl fun a hA => ?_
    refine sq hA (q_move rfl) rfl fun a hA => ?_
    refine gq hA rfl rfl (q_move rfl) rfl fun a hA => ?_
    rcases Classical.em (i < 0) with hs20 | hs20
    · skip
      refine gq hA rfl rfl (Runs.bt (q_lssI (n := 0) rfl rfl) (by omega)) rfl fun a hA => ?_
      refine sq hA (q_pick_f rfl rfl) rfl fun a hA => ?_
      refine sq hA (q_move rfl) rfl fun a hA => ?_
      refine gs hA rfl rfl rfl rfl fun a hA => ?_
      refine gs hA rfl rfl rfl rfl fun a hA => ?_
      refine gs hA rfl rfl rfl rfl fun a hA => ?_
      refine gs hA rfl rfl rfl rfl fun a hA => ?_
      refine gs hA rfl rfl rfl rfl fun a hA => ?_
      refine sq hA (q_pick_t rfl rfl) rfl fun a hA => ?_
      refine sq hA (q_move rfl) rfl fun a hA => ?_
      refine gs hA rfl rfl rfl rfl fun a hA => ?_
      refine gs hA rfl rfl rfl rfl fun a hA => ?_
      refine sq hA (q_pick_t rfl rfl) rfl fun a hA => ?_
      refine sq hA (q_move rfl) rfl fun a hA => ?_
      refine gs hA rfl rfl rfl rfl fun a hA => ?_
      refine gs hA rfl rfl rfl rfl fun a hA => ?_
      refine gs hA rfl rfl rfl rfl fun a hA => ?_
      refine gs hA rfl rfl rfl rfl fun a hA => ?_
      refine sq hA (q_pick_t rfl rfl) rfl fun a hA => ?_
      refine wpList_nil ?_
      refine hK3 _ _ ?_
      clear hK3
      replace hA := hA.sub (E' := [(38, _), (8, _), (4, _), (1, _), (2, _), (3, _)]) ⟨rfl, rfl, rfl, rfl, rfl, rfl, trivial⟩
      refine cond_t hA rfl ?_
      refine wp_seq_k fun K5 hK5 => ?_
      refine wp_region_lit ?_
      refine sl hA (lo_call fn15 rfl (awake6_any (hg.mono0 hH))) rfl ?_
      rintro _ w ⟨rfl, hC⟩ a hA
      replace hH := HS.call0 hH hC
      clear hC
      refine sq hA (q_assign rfl) rfl fun a hA => ?_
      refine wpList_nil ?_
      refine hK5 _ _ ?_
      clear hK5
      replace hA := hA.sub (E' := [(8, _), (4, _), (1, _), (2, _), (3, _)]) ⟨rfl, rfl, rfl, rfl, rfl, trivial⟩
      refine wp_ret ?_
      refine then_ret ?_
      refine post_ret hA (res_1 rfl hA rfl) ?_
      replace hH := hH.pick [] (Hs' := []) rfl
      exact ⟨_, rfl, rfl, hH⟩
    · skip
      refine gq hA rfl rfl (Runs.bf (q_lssI (n := 0) rfl rfl) (by omega)) rfl fun a hA => ?_
      refine sq hA (q_pick_f rfl rfl) rfl fun a hA => ?_
      refine sq hA (q_move rfl) rfl fun a hA => ?_
      refine gq hA rfl rfl (q_move rfl) rfl fun a hA => ?_
      refine gq hA rfl rfl (q_move rfl) rfl fun a hA => ?_
      refine gq hA rfl rfl (q_len Tryd.underlying22 rfl (Rd.shp hr)) rfl fun a hA => ?_
      refine gq hA rfl rfl (q_shlI (n := ds.length) (2 ^ ds.length) rfl rfl (by omega) rfl (by omega)) rfl fun a hA => ?_
      rw [Int.one_mul] at hA
      rcases Classical.em ((2 : Int) ^ ds.length ≤ i) with hs27 | hs27
      · skip
        refine gq hA rfl rfl (Runs.bt (q_geqI rfl rfl) (by omega)) rfl fun a hA => ?_
        refine sq hA (q_pick_f rfl rfl) rfl fun a hA => ?_
        refine sq hA (q_move rfl) rfl fun a hA => ?_
        refine gs hA rfl rfl rfl rfl fun a hA => ?_
        refine gs hA rfl rfl rfl rfl fun a hA => ?_
        refine sq hA (q_pick_t rfl rfl) rfl fun a hA => ?_
        refine sq hA (q_move rfl) rfl fun a hA => ?_
        refine gs hA rfl rfl rfl rfl fun a hA => ?_
        refine gs hA rfl rfl rfl rfl fun a hA => ?_
        refine gs hA rfl rfl rfl rfl fun a hA => ?_
        refine gs hA rfl rfl rfl rfl fun a hA => ?_
        refine sq hA (q_pick_t rfl rfl) rfl fun a hA => ?_
        refine wpList_nil ?_
        refine hK3 _ _ ?_
        clear hK3
        replace hA := hA.sub (E' := [(38, _), (8, _), (4, _), (1, _), (2, _), (3, _)]) ⟨rfl, rfl, rfl, rfl, rfl, rfl, trivial⟩
        refine cond_t hA rfl ?_
        refine wp_seq_k fun K6 hK6 => ?_
        refine wp_region_lit ?_
        refine sl hA (lo_call fn15 rfl (awake6_any (hg.mono0 hH))) rfl ?_
        rintro _ w ⟨rfl, hC⟩ a hA
        replace hH := HS.call0 hH hC
        clear hC
        refine sq hA (q_assign rfl) rfl fun a hA => ?_
        refine wpList_nil ?_
        refine hK6 _ _ ?_
        clear hK6
        replace hA := hA.sub (E' := [(8, _), (4, _), (1, _), (2, _), (3, _)]) ⟨rfl, rfl, rfl, rfl, rfl, trivial⟩
        refine wp_ret ?_
        refine then_ret ?_
        refine post_ret hA (res_1 rfl hA rfl) ?_
        replace hH := hH.pick [] (Hs' := []) rfl
        exact ⟨_, rfl, rfl, hH⟩
      · skip
        refine gq hA rfl rfl (Runs.bf (q_geqI rfl rfl) (by omega)) rfl fun a hA => ?_
        refine sq hA (q_pick_f rfl rfl) rfl fun a hA => ?_
        refine sq hA (q_move rfl) rfl fun a hA => ?_
        refine gq hA rfl rfl (q_move rfl) rfl fun a hA => ?_
        rcases Classical.em (k < 0) with hs31 | hs31
        · skip
          refine gq hA rfl rfl (Runs.bt (q_lssI (n := 0) rfl rfl) (by omega)) rfl fun a hA => ?_
          refine sq hA (q_pick_f rfl rfl) rfl fun a hA => ?_
          refine sq hA (q_move rfl) rfl fun a hA => ?_
          refine gs hA rfl rfl rfl rfl fun a hA => ?_
          refine gs hA rfl rfl rfl rfl fun a hA => ?_
          refine gs hA rfl rfl rfl rfl fun a hA => ?_
          refine gs hA rfl rfl rfl rfl fun a hA => ?_
          refine sq hA (q_pick_t rfl rfl) rfl fun a hA => ?_
          refine wpList_nil ?_
          refine hK3 _ _ ?_
          clear hK3
          replace hA := hA.sub (E' := [(38, _), (8, _), (4, _), (1, _), (2, _), (3, _)]) ⟨rfl, rfl, rfl, rfl, rfl, rfl, trivial⟩
          refine cond_t hA rfl ?_
          refine wp_seq_k fun K7 hK7 => ?_
          refine wp_region_lit ?_
          refine sl hA (lo_call fn15 rfl (awake6_any (hg.mono0 hH))) rfl ?_
          rintro _ w ⟨rfl, hC⟩ a hA
          replace hH := HS.call0 hH hC
          clear hC
          refine sq hA (q_assign rfl) rfl fun a hA => ?_
          refine wpList_nil ?_
          refine hK7 _ _ ?_
          clear hK7
          replace hA := hA.sub (E' := [(8, _), (4, _), (1, _), (2, _), (3, _)]) ⟨rfl, rfl, rfl, rfl, rfl, trivial⟩
          refine wp_ret ?_
          refine then_ret ?_
          refine post_ret hA (res_1 rfl hA rfl) ?_
          replace hH := hH.pick [] (Hs' := []) rfl
          exact ⟨_, rfl, rfl, hH⟩
        · skip
          refine gq hA rfl rfl (Runs.bf (q_lssI (n := 0) rfl rfl) (by omega)) rfl fun a hA => ?_
          refine sq hA (q_pick_f rfl rfl) rfl fun a hA => ?_
          refine sq hA (q_move rfl) rfl fun a hA => ?_
          refine gq hA rfl rfl (q_move rfl) rfl fun a hA => ?_
          refine gq hA rfl rfl (q_move rfl) rfl fun a hA => ?_
          refine gq hA rfl rfl (q_len Tryd.underlying22 rfl (Rd.shp hr)) rfl fun a hA => ?_
          refine gq hA rfl rfl (Runs.bt (q_gtrI rfl rfl) (by omega)) rfl fun a hA => ?_
          refine sq hA (q_pick_f rfl rfl) rfl fun a hA => ?_
          refine wpList_nil ?_
          refine hK3 _ _ ?_
          clear hK3
          replace hA := hA.sub (E' := [(38, _), (8, _), (4, _), (1, _), (2, _), (3, _)]) ⟨rfl, rfl, rfl, rfl, rfl, rfl, trivial⟩
          refine cond_t hA rfl ?_
          refine wp_seq_k fun K8 hK8 => ?_
          refine wp_region_lit ?_
          refine sl hA (lo_call fn15 rfl (awake6_any (hg.mono0 hH))) rfl ?_
          rintro _ w ⟨rfl, hC⟩ a hA
          replace hH := HS.call0 hH hC
          clear hC
          refine sq hA (q_assign rfl) rfl fun a hA => ?_
          refine wpList_nil ?_
          refine hK8 _ _ ?_
          clear hK8
          replace hA := hA.sub (E' := [(8, _), (4, _), (1, _), (2, _), (3, _)]) ⟨rfl, rfl, rfl, rfl, rfl, trivial⟩
          refine wp_ret ?_
          refine then_ret ?_
          refine post_ret hA (res_1 rfl hA rfl) ?_
          replace hH := hH.pick [] (Hs' := []) rfl
          exact ⟨_, rfl, rfl, hH⟩

set_option maxHeartbeats 1000000 in
theorem treeParts_ok {w0 : World} {lv : Nat} (hg : Gl lv w0) (p : Bs) (i : Nat) (v : Value) (ds : List Bs) (k : Nat) (hp : p.length = 32) (hd : Dg ds) (hr : RdD [] w0 v ds) (hl : ds.length ≤ 1048576) (hl2 : ds.length ≤ 10) (hi : i < 2 ^ ds.length) (hk : k ≤ ds.length) :
    Calls Tryd.prog 7 #[(.agg ((p).map B8).toArray), I i, v, I k] w0 (Ret fun r w' => r = .bool true ∧ HS [] w0 w' []) := by
  have hH := HS.start w0
  refine start (n := 92) (E := [(0, _), (1, _), (2, _), (3, _)]) Tryd.func7 rfl rfl rfl (args_look rfl) ?_
  intro a hA
  have hp1 := pow_le hl2
  have hp2 := pow_le (m := k) (by omega)
  obtain ⟨qn, hqn⟩ : ∃ q, q = 2 ^ ds.length := ⟨_, rfl⟩
  obtain ⟨qk, hqk⟩ : ∃ q, q = 2 ^ k := ⟨_, rfl⟩
  have hcn : (1 : Int) * 2 ^ ds.length = (qn : Int) := by rw [hqn]; simp
  have hck : (1 : Int) * 2 ^ k = (qk : Int) := by rw [hqk]; simp
  have hqp : 0 < qk := by rw [hqk]; exact Nat.pow_pos (by decide)
  have hin : i < qn := by rw [hqn]; exact hi
  rw [← hqn] at hp1
  rw [← hqk] at hp2
  have hpn : (2 : Int) ^ ds.length = (qn : Int) := by rw [hqn]; simp
  have hpk : (2 : Int) ^ k = (qk : Int) := by rw [hqk]; simp
  have hva : (clm p i ds ds.length).length = 32 := clm_length hp _ _ _
  have hvl : (clm p (i % qk) (ds.take k) k).length = 32 := clm_length hp _ _ _
  have hvh : (clm (clm p (i % qk) (ds.take k) k) (i / qk) (ds.drop k) (ds.length - k)).length = 32 := clm_length hvl _ _ _
  have hkl : (ds.take k).length = k := by rw [List.length_take]; omega
  have hkd : (ds.drop k).length = ds.length - k := List.length_drop
  refine wp_seq_k fun K1 hK1 => ?_
  refine wp_region_lit ?_
  refine sl hA (lo_boxA hH rfl) rfl ?_
  clear hH; rintro _ w ⟨b_t4, rfl, hH⟩ a hA
  refine sq hA (q_assign rfl) rfl fun a hA => ?_
  refine wpList_nil ?_
  refine hK1 _ _ ?_
  clear hK1
  replace hA := hA.sub (E' := [(8, _), (4, _), (1, _), (2, _), (3, _)]) ⟨rfl, rfl, rfl, rfl, rfl, trivial⟩
  refine wp_seq_k fun K2 hK2 => ?_
  refine wp_seq_k fun K3 hK3 => ?_
  refine wp_region_lit ?_
  refine sq hA (q_move rfl) rfl fun a hA => ?_
  refine sq hA (q_len Tryd.underlying22 rfl (Rd.shp hr)) rfl fun a hA => ?_
  refine sq hA (Runs.bf (q_gtrI (n := 10) rfl rfl) (by omega)) rfl fun a hA => ?_
  refine sq hA (q_move rfl) rfl fun a hA => ?_
  refine gq hA rfl rfl (q_move rfl) rfl fun a hA => ?_
  refine gq hA rfl rfl (Runs.bf (q_lssI (n := 0) rfl rfl) (by omega)) rfl fun a hA => ?_
  refine sq hA (q_pick_f rfl rfl) rfl fun a hA => ?_
  refine sq hA (q_move rfl) rfl fun a hA => ?_
  refine gq hA rfl rfl (q_move rfl) rfl fun a hA => ?_
  refine gq hA rfl rfl (q_move rfl) rfl fun a hA => ?_
  refine gq hA rfl rfl (q_len Tryd.underlying22 rfl (Rd.shp hr)) rfl fun a hA => ?_
  refine gq hA rfl rfl (q_shlI (n := ds.length) (2 ^ ds.length) rfl rfl (by omega) rfl (by omega)) rfl fun a hA => ?_
  rw [hcn] at hA
  refine gq hA rfl rfl (Runs.bf (q_geqI rfl rfl) (by omega)) rfl fun a hA => ?_
  refine sq hA (q_pick_f rfl rfl) rfl fun a hA => ?_
  refine sq hA (q_move rfl) rfl fun a hA => ?_
  refine gq hA rfl rfl (q_move rfl) rfl fun a hA => ?_
  refine gq hA rfl rfl (Runs.bf (q_lssI (n := 0) rfl rfl) (by omega)) rfl fun a hA => ?_
  refine sq hA (q_pick_f rfl rfl) rfl fun a hA => ?_
  refine sq hA (q_move rfl) rfl fun a hA => ?_
  refine gq hA rfl rfl (q_move rfl) rfl fun a hA => ?_
  refine gq hA rfl rfl (q_move rfl) rfl fun a hA => ?_
  refine gq hA rfl rfl (q_len Tryd.underlying22 rfl (Rd.shp hr)) rfl fun a hA => ?_
  refine gq hA rfl rfl (Runs.bf (q_gtrI rfl rfl) (by omega)) rfl fun a hA => ?_
  refine sq hA (q_pick_f rfl rfl) rfl fun a hA => ?_
  refine wpList_nil ?_
  refine hK3 _ _ ?_
  clear hK3
  replace hA := hA.sub (E' := [(38, _), (8, _), (4, _), (1, _), (2, _), (3, _)]) ⟨rfl, rfl, rfl, rfl, rfl, rfl, trivial⟩
  refine cond_f hA rfl ?_
  refine wp_skip ?_
  refine hK2 _ _ ?_
  clear hK2
  replace hA := hA.sub (E' := [(8, _), (4, _), (1, _), (2, _), (3, _)]) ⟨rfl, rfl, rfl, rfl, rfl, trivial⟩
  refine wp_seq_k fun K4 hK4 => ?_
  refine any_go mixed (fun j => !(Nat.beq j 4 || Nat.beq j 9)) hH ?_
  clear hH; intro w hH
  have hS := hH
  change wpK _ _ _ _ _ _ 11 #[false, false, false, false, false, false, false, false, false, false, false] _ _
  refine aq hA 0 rfl (by kernel_rfl) (by intro c a d v w h; cases d <;> exact h) hS (fun w hH => (q_loadW hH 0 rfl Tryd.underlying24 rfl ti24 rfl (by first | omega | (simp; done) | (simp; omega) | (simp [*]; done) | (simp [*]; omega)))) rfl (listed' := #[true, false, false, false, false, false, false, false, false, false, false]) rfl fun a hA => ?_
  refine apq hA 1 rfl (by kernel_rfl) (by intro c a d v w h; cases d <;> exact h) (fun w => (q_move rfl)) rfl (listed' := #[true, true, false, false, false, false, false, false, false, false, false]) rfl fun a hA => ?_
  refine apq hA 2 rfl (by kernel_rfl) (by intro c a d v w h; cases d <;> exact h) (fun w => (q_move rfl)) rfl (listed' := #[true, true, true, false, false, false, false, false, false, false, false]) rfl fun a hA => ?_
  refine a_ch2 (i := 3) (j := 8) (by kernel_rfl) ?_ ?_
  · skip
    refine oneL hA 3 rfl (lo_call fn17 rfl (own6_any _ (ds) hd (hH.rd hr) (by omega))) rfl (listed' := #[true, true, true, true, false, false, false, false, false, false, false]) rfl ?_
    rintro _ w ⟨v_t44, N_t44, rfl, hO_t44, hC⟩
    replace hH := HS.call0 hH hC
    clear hC
    have hS' := hH.pick [1] (Hs' := [_]) rfl
    replace hS := hS'; clear hS'
    refine ⟨fun _ _ => hS, ?_⟩
    intro a hA
    refine a_ch2 (i := 4) (j := 8) (by kernel_rfl) ?_ ?_
    · skip
      refine oneL hA 4 rfl (lo_call fn25 rfl (climb_any (hg.mono0 hH) p i _ ds hp hd (Own.rd0 hO_t44 hH 0 rfl) hl2 hi)) rfl (listed' := #[true, true, true, true, true, false, false, false, false, false, false]) rfl ?_
      rintro _ w ⟨rfl, hC⟩
      replace hH := HS.call0 hH hC
      clear hC
      refine ⟨fun _ h => absurd h (by decide), ?_⟩
      intro a hA
      refine apq hA 5 rfl (by kernel_rfl) (by intro c a d v w h; cases d <;> exact h) (fun w => (q_move rfl)) rfl (listed' := #[true, true, true, true, true, true, false, false, false, false, false]) rfl fun a hA => ?_
      refine apq hA 6 rfl (by kernel_rfl) (by intro c a d v w h; cases d <;> exact h) (fun w => (q_extract rfl rfl)) rfl (listed' := #[true, true, true, true, true, true, true, false, false, false, false]) rfl fun a hA => ?_
      refine apq hA 7 rfl (by kernel_rfl) (by intro c a d v w h; cases d <;> exact h) (fun w => (q_extract rfl rfl)) rfl (listed' := #[true, true, true, true, true, true, true, true, false, false, false]) rfl fun a hA => ?_
      refine al hA 8 rfl (by kernel_rfl) (lo_allocA hH ti24) rfl (listed' := #[true, true, true, true, true, true, true, true, true, false, false]) rfl ?_
      clear hH; rintro _ w ⟨b_t9, rfl, hH⟩
      have hS' := hH.pick [2] (Hs' := [_]) rfl
      replace hS := hS'; clear hS'
      refine ⟨fun _ _ => hS, ?_⟩
      intro a hA
      refine al0 hA 9 rfl (by kernel_rfl) (lo_storeAm hH ti24 rfl rfl (by first | rfl | (simp; done) | (rw [List.length_map]; exact hva) | exact hva) (by first | rfl | (simp; done) | (rw [List.length_map]; exact hva) | exact hva) (one_B8 _)) (listed' := #[true, true, true, true, true, true, true, true, true, true, false]) rfl ?_
      clear hH; rintro _ w hH
      refine ⟨fun _ h => absurd h (by decide), ?_⟩
      refine apq hA 10 rfl (by kernel_rfl) (by intro c a d v w h; cases d <;> exact h) (fun w => (q_assign rfl)) rfl (listed' := #[true, true, true, true, true, true, true, true, true, true, true]) rfl fun a hA => ?_
      refine a_end (by kernel_rfl) ?_ _
      refine hK4 _ _ ?_
      clear hK4
      replace hA := hA.sub (E' := [(10, _), (9, _), (8, _), (4, _), (1, _), (2, _), (3, _)]) ⟨rfl, rfl, rfl, rfl, rfl, rfl, rfl, trivial⟩
      refine wp_seq_k fun K5 hK5 => ?_
      refine any_go mixed (fun j => !(Nat.beq j 9 || Nat.beq j 14)) hH ?_
      clear hH; intro w hH
      have hS := hH
      change wpK _ _ _ _ _ _ 16 #[false, false, false, false, false, false, false, false, false, false, false, false, false, false, false, false] _ _
      refine aq hA 0 rfl (by kernel_rfl) (by intro c a d v w h; cases d <;> exact h) hS (fun w hH => (q_loadW hH 2 rfl Tryd.underlying24 rfl ti24 rfl (by first | omega | (simp; done) | (simp; omega) | (simp [*]; done) | (simp [*]; omega)))) rfl (listed' := #[true, false, false, false, false, false, false, false, false, false, false, false, false, false, false, false]) rfl fun a hA => ?_
      refine apq hA 1 rfl (by kernel_rfl) (by intro c a d v w h; cases d <;> exact h) (fun w => (q_move rfl)) rfl (listed' := #[true, true, false, false, false, false, false, false, false, false, false, false, false, false, false, false]) rfl fun a hA => ?_
      refine apq hA 2 rfl (by kernel_rfl) (by intro c a d v w h; cases d <;> exact h) (fun w => (q_move rfl)) rfl (listed' := #[true, true, true, false, false, false, false, false, false, false, false, false, false, false, false, false]) rfl fun a hA => ?_
      refine apq hA 3 rfl (by kernel_rfl) (by intro c a d v w h; cases d <;> exact h) (fun w => (q_shlI (n := k) (2 ^ k) rfl rfl (by omega) rfl (by omega))) rfl (listed' := #[true, true, true, true, false, false, false, false, false, false, false, false, false, false, false, false]) rfl fun a hA => ?_
      rw [hck] at hA
      refine apq hA 4 rfl (by kernel_rfl) (by intro c a d v w h; cases d <;> exact h) (fun w => (q_remI rfl rfl (by omega))) rfl (listed' := #[true, true, true, true, true, false, false, false, false, false, false, false, false, false, false, false]) rfl fun a hA => ?_
      rw [show ((i : Nat) : Int) % ((qk : Nat) : Int) = ((i % qk : Nat) : Int) from (Int.natCast_emod i qk).symm] at hA
      refine apq hA 5 rfl (by kernel_rfl) (by intro c a d v w h; cases d <;> exact h) (fun w => (q_move rfl)) rfl (listed' := #[true, true, true, true, true, true, false, false, false, false, false, false, false, false, false, false]) rfl fun a hA => ?_
      refine apq hA 6 rfl (by kernel_rfl) (by intro c a d v w h; cases d <;> exact h) (fun w => (q_move rfl)) rfl (listed' := #[true, true, true, true, true, true, true, false, false, false, false, false, false, false, false, false]) rfl fun a hA => ?_
      obtain ⟨v_t56, hv_t56, hO_t56⟩ := Rd.cut hr (0) (k) (by first | omega | (simp; omega) | (simp [*]; omega)) (by first | omega | (simp; omega) | (simp [*]; omega))
      replace hO_t56 : RdD [] w0 v_t56 (ds.take k) := RdD.takeOf hd hk hO_t56
      refine apq hA 7 rfl (by kernel_rfl) (by intro c a d v w h; cases d <;> exact h) (fun w => (q_slice Tryd.underlying22 ti24 rfl (0) (k) hv_t56 (Rd.shp hr) rfl rfl (rfl) (rfl) (by first | omega | (simp; omega) | (simp [*]; omega)) (by first | omega | (simp; omega) | (simp [*]; omega)))) rfl (listed' := #[true, true, true, true, true, true, true, true, false, false, false, false, false, false, false, false]) rfl fun a hA => ?_
      refine a_ch2 (i := 8) (j := 13) (by kernel_rfl) ?_ ?_
      · skip
        refine oneL hA 8 rfl (lo_call fn17 rfl (own6_any _ (ds.take k) (hd.take k) (hH.rd hO_t56) (by omega))) rfl (listed' := #[true, true, true, true, true, true, true, true, true, false, false, false, false, false, false, false]) rfl ?_
        rintro _ w ⟨v_t57, N_t57, rfl, hO_t57, hC⟩
        replace hH := HS.call0 hH hC
        clear hC
        have hS' := hH.pick [1, 2, 3] (Hs' := [_, _, _]) rfl
        replace hS := hS'; clear hS'
        refine ⟨fun _ _ => hS, ?_⟩
        intro a hA
        refine a_ch2 (i := 9) (j := 13) (by kernel_rfl) ?_ ?_
        · skip
          refine oneL hA 9 rfl (lo_call fn25 rfl (climb_at (climb_any (hg.mono0 hH) p (i % qk) _ (ds.take k) hp (hd.take k) (Own.rd0 hO_t57 hH 0 rfl) (by omega) (by rw [hkl, ← hqk]; exact Nat.mod_lt _ hqp)) hkl)) rfl (listed' := #[true, true, true, true, true, true, true, true, true, true, false, false, false, false, false, false]) rfl ?_
          rintro _ w ⟨rfl, hC⟩
          replace hH := HS.call0 hH hC
          clear hC
          refine ⟨fun _ h => absurd h (by decide), ?_⟩
          intro a hA
          refine apq hA 10 rfl (by kernel_rfl) (by intro c a d v w h; cases d <;> exact h) (fun w => (q_move rfl)) rfl (listed' := #[true, true, true, true, true, true, true, true, true, true, true, false, false, false, false, false]) rfl fun a hA => ?_
          refine apq hA 11 rfl (by kernel_rfl) (by intro c a d v w h; cases d <;> exact h) (fun w => (q_extract rfl rfl)) rfl (listed' := #[true, true, true, true, true, true, true, true, true, true, true, true, false, false, false, false]) rfl fun a hA => ?_
          refine apq hA 12 rfl (by kernel_rfl) (by intro c a d v w h; cases d <;> exact h) (fun w => (q_extract rfl rfl)) rfl (listed' := #[true, true, true, true, true, true, true, true, true, true, true, true, true, false, false, false]) rfl fun a hA => ?_
          refine al hA 13 rfl (by kernel_rfl) (lo_allocA hH ti24) rfl (listed' := #[true, true, true, true, true, true, true, true, true, true, true, true, true, true, false, false]) rfl ?_
          clear hH; rintro _ w ⟨b_t11, rfl, hH⟩
          have hS' := hH.pick [2, 3, 4] (Hs' := [_, _, _]) rfl
          replace hS := hS'; clear hS'
          refine ⟨fun _ _ => hS, ?_⟩
          intro a hA
          refine al0 hA 14 rfl (by kernel_rfl) (lo_storeAm hH ti24 rfl rfl (by first | rfl | (simp; done) | (rw [List.length_map]; exact hvl) | exact hvl) (by first | rfl | (simp; done) | (rw [List.length_map]; exact hvl) | exact hvl) (one_B8 _)) (listed' := #[true, true, true, true, true, true, true, true, true, true, true, true, true, true, true, false]) rfl ?_
          clear hH; rintro _ w hH
          refine ⟨fun _ h => absurd h (by decide), ?_⟩
          refine apq hA 15 rfl (by kernel_rfl) (by intro c a d v w h; cases d <;> exact h) (fun w => (q_assign rfl)) rfl (listed' := #[true, true, true, true, true, true, true, true, true, true, true, true, true, true, true, true]) rfl fun a hA => ?_
          refine a_end (by kernel_rfl) ?_ _
          refine hK5 _ _ ?_
          clear hK5
          replace hA := hA.sub (E' := [(12, _), (11, _), (10, _), (9, _), (8, _), (1, _), (2, _), (3, _)]) ⟨rfl, rfl, rfl, rfl, rfl, rfl, rfl, rfl, trivial⟩
          refine wp_seq_k fun K6 hK6 => ?_
          refine any_go mixed (fun j => !(Nat.beq j 9 || Nat.beq j 14)) hH ?_
          clear hH; intro w hH
          have hS := hH
          change wpK _ _ _ _ _ _ 16 #[false, false, false, false, false, false, false, false, false, false, false, false, false, false, false, false] _ _
          refine aq hA 0 rfl (by kernel_rfl) (by intro c a d v w h; cases d <;> exact h) hS (fun w hH => (q_loadW hH 0 rfl Tryd.underlying24 rfl ti24 rfl (by first | rfl | (simp; done) | (rw [List.length_map]; exact hvl) | exact hvl))) rfl (listed' := #[true, false, false, false, false, false, false, false, false, false, false, false, false, false, false, false]) rfl fun a hA => ?_
          refine apq hA 1 rfl (by kernel_rfl) (by intro c a d v w h; cases d <;> exact h) (fun w => (q_move rfl)) rfl (listed' := #[true, true, false, false, false, false, false, false, false, false, false, false, false, false, false, false]) rfl fun a hA => ?_
          refine apq hA 2 rfl (by kernel_rfl) (by intro c a d v w h; cases d <;> exact h) (fun w => (q_move rfl)) rfl (listed' := #[true, true, true, false, false, false, false, false, false, false, false, false, false, false, false, false]) rfl fun a hA => ?_
          refine apq hA 3 rfl (by kernel_rfl) (by intro c a d v w h; cases d <;> exact h) (fun w => (q_shlI (n := k) (2 ^ k) rfl rfl (by omega) rfl (by omega))) rfl (listed' := #[true, true, true, true, false, false, false, false, false, false, false, false, false, false, false, false]) rfl fun a hA => ?_
          rw [hck] at hA
          refine apq hA 4 rfl (by kernel_rfl) (by intro c a d v w h; cases d <;> exact h) (fun w => (q_quoI rfl rfl (by omega))) rfl (listed' := #[true, true, true, true, true, false, false, false, false, false, false, false, false, false, false, false]) rfl fun a hA => ?_
          rw [show ((i : Nat) : Int) / ((qk : Nat) : Int) = ((i / qk : Nat) : Int) from (Int.natCast_ediv i qk).symm] at hA
          refine apq hA 5 rfl (by kernel_rfl) (by intro c a d v w h; cases d <;> exact h) (fun w => (q_move rfl)) rfl (listed' := #[true, true, true, true, true, true, false, false, false, false, false, false, false, false, false, false]) rfl fun a hA => ?_
          refine apq hA 6 rfl (by kernel_rfl) (by intro c a d v w h; cases d <;> exact h) (fun w => (q_move rfl)) rfl (listed' := #[true, true, true, true, true, true, true, false, false, false, false, false, false, false, false, false]) rfl fun a hA => ?_
          obtain ⟨v_t69, hv_t69, hO_t69⟩ := Rd.cut hr (k) (ds.length) (by first | omega | (simp; omega) | (simp [*]; omega)) (by first | omega | (simp; omega) | (simp [*]; omega))
          replace hO_t69 : RdD [] w0 v_t69 (ds.drop k) := RdD.dropOf hd hk hO_t69
          refine apq hA 7 rfl (by kernel_rfl) (by intro c a d v w h; cases d <;> exact h) (fun w => (q_slice Tryd.underlying22 ti24 rfl (k) (ds.length) hv_t69 (Rd.shp hr) rfl rfl (rfl) (by first | rfl | (simp; done) | omega) (by first | omega | (simp; omega) | (simp [*]; omega)) (by first | omega | (simp; omega) | (simp [*]; omega)))) rfl (listed' := #[true, true, true, true, true, true, true, true, false, false, false, false, false, false, false, false]) rfl fun a hA => ?_
          refine a_ch2 (i := 8) (j := 13) (by kernel_rfl) ?_ ?_
          · skip
            refine oneL hA 8 rfl (lo_call fn17 rfl (own6_any _ (ds.drop k) (hd.drop k) (hH.rd hO_t69) (by omega))) rfl (listed' := #[true, true, true, true, true, true, true, true, true, false, false, false, false, false, false, false]) rfl ?_
            rintro _ w ⟨v_t70, N_t70, rfl, hO_t70, hC⟩
            replace hH := HS.call0 hH hC
            clear hC
            have hS' := hH.pick [1, 2, 3, 4, 5] (Hs' := [_, _, _, _, _]) rfl
            replace hS := hS'; clear hS'
            refine ⟨fun _ _ => hS, ?_⟩
            intro a hA
            refine a_ch2 (i := 9) (j := 13) (by kernel_rfl) ?_ ?_
            · skip
              refine oneL hA 9 rfl (lo_call fn25 rfl (climb_at (climb_any (hg.mono0 hH) (clm p (i % qk) (ds.take k) k) (i / qk) _ (ds.drop k) hvl (hd.drop k) (Own.rd0 hO_t70 hH 0 rfl) (by omega) (by rw [hkd]; exact clm_quo hk hqk hqn hin)) hkd)) rfl (listed' := #[true, true, true, true, true, true, true, true, true, true, false, false, false, false, false, false]) rfl ?_
              rintro _ w ⟨rfl, hC⟩
              replace hH := HS.call0 hH hC
              clear hC
              refine ⟨fun _ h => absurd h (by decide), ?_⟩
              intro a hA
              refine apq hA 10 rfl (by kernel_rfl) (by intro c a d v w h; cases d <;> exact h) (fun w => (q_move rfl)) rfl (listed' := #[true, true, true, true, true, true, true, true, true, true, true, false, false, false, false, false]) rfl fun a hA => ?_
              refine apq hA 11 rfl (by kernel_rfl) (by intro c a d v w h; cases d <;> exact h) (fun w => (q_extract rfl rfl)) rfl (listed' := #[true, true, true, true, true, true, true, true, true, true, true, true, false, false, false, false]) rfl fun a hA => ?_
              refine apq hA 12 rfl (by kernel_rfl) (by intro c a d v w h; cases d <;> exact h) (fun w => (q_extract rfl rfl)) rfl (listed' := #[true, true, true, true, true, true, true, true, true, true, true, true, true, false, false, false]) rfl fun a hA => ?_
              refine al hA 13 rfl (by kernel_rfl) (lo_allocA hH ti24) rfl (listed' := #[true, true, true, true, true, true, true, true, true, true, true, true, true, true, false, false]) rfl ?_
              clear hH; rintro _ w ⟨b_t13, rfl, hH⟩
              have hS' := hH.pick [2, 3, 4, 5, 6] (Hs' := [_, _, _, _, _]) rfl
              replace hS := hS'; clear hS'
              refine ⟨fun _ _ => hS, ?_⟩
              intro a hA
              refine al0 hA 14 rfl (by kernel_rfl) (lo_storeAm hH ti24 rfl rfl (by first | rfl | (simp; done) | (rw [List.length_map]; exact hvh) | exact hvh) (by first | rfl | (simp; done) | (rw [List.length_map]; exact hvh) | exact hvh) (one_B8 _)) (listed' := #[true, true, true, true, true, true, true, true, true, true, true, true, true, true, true, false]) rfl ?_
              clear hH; rintro _ w hH
              refine ⟨fun _ h => absurd h (by decide), ?_⟩
              refine apq hA 15 rfl (by kernel_rfl) (by intro c a d v w h; cases d <;> exact h) (fun w => (q_assign rfl)) rfl (listed' := #[true, true, true, true, true, true, true, true, true, true, true, true, true, true, true, true]) rfl fun a hA => ?_
              refine a_end (by kernel_rfl) ?_ _
              refine hK6 _ _ ?_
              clear hK6
              replace hA := hA.sub (E' := [(14, _), (13, _), (12, _), (10, _), (9, _), (8, _)]) ⟨rfl, rfl, rfl, rfl, rfl, rfl, trivial⟩
              refine wp_seq_k fun K7 hK7 => ?_
              refine wp_region_lit ?_
              refine sq hA (q_move rfl) rfl fun a hA => ?_
              refine sq hA (Runs.bt (q_eqlI (n := 0) rfl rfl) (by rfl)) rfl fun a hA => ?_
              refine sq hA (q_move rfl) rfl fun a hA => ?_
              refine gq hA rfl rfl (q_move rfl) rfl fun a hA => ?_
              refine gq hA rfl rfl (Runs.bt (q_eqlI (n := 0) rfl rfl) (by rfl)) rfl fun a hA => ?_
              refine sq hA (q_pick_t rfl rfl) rfl fun a hA => ?_
              refine sq hA (q_move rfl) rfl fun a hA => ?_
              refine gq hA rfl rfl (q_move rfl) rfl fun a hA => ?_
              refine gq hA rfl rfl (Runs.bt (q_eqlI (n := 0) rfl rfl) (by rfl)) rfl fun a hA => ?_
              refine sq hA (q_pick_t rfl rfl) rfl fun a hA => ?_
              refine sq hA (q_move rfl) rfl fun a hA => ?_
              refine gq hA rfl rfl (q_loadW hH 4 rfl Tryd.underlying24 rfl ti24 rfl (by first | rfl | (simp; done) | (rw [List.length_map]; exact hva) | exact hva)) rfl fun a hA => ?_
              refine gq hA rfl rfl (q_loadW hH 0 rfl Tryd.underlying24 rfl ti24 rfl (by first | rfl | (simp; done) | (rw [List.length_map]; exact hvh) | exact hvh)) rfl fun a hA => ?_
              refine gq hA rfl rfl (Runs.bt (q_eqlA8 (p := clm p i ds ds.length) (q := clm (clm p (i % qk) (ds.take k) k) (i / qk) (ds.drop k) (ds.length - k)) eqa24 rfl rfl rfl rfl (by first | exact hva | exact hvh) (by first | exact hva | exact hvh)) (by rw [hqk]; exact (clm_parts p i ds hk).symm)) rfl fun a hA => ?_
              refine sq hA (q_pick_t rfl rfl) rfl fun a hA => ?_
              refine sq hA (q_move rfl) rfl fun a hA => ?_
              refine gl hA rfl rfl (lo_call fn15 rfl (awake6_any (hg.mono0 hH))) rfl ?_
              rintro _ w ⟨rfl, hC⟩ a hA
              replace hH := HS.call0 hH hC
              clear hC
              refine sq hA (q_pick_t rfl rfl) rfl fun a hA => ?_
              refine sq hA (q_assign rfl) rfl fun a hA => ?_
              refine wpList_nil ?_
              refine hK7 _ _ ?_
              clear hK7
              replace hA := hA.sub (E' := [(8, _)]) ⟨rfl, trivial⟩
              refine wp_ret ?_
              refine post_ret hA (res_1 rfl hA rfl) ?_
              replace hH := hH.pick [] (Hs' := []) rfl
              exact ⟨_, rfl, rfl, hH⟩
            · skip
              refine oneL hA 13 rfl (lo_allocA hH ti24) rfl (listed' := #[true, true, true, true, true, true, true, true, true, false, false, false, false, true, false, false]) rfl ?_
              clear hH; rintro _ w ⟨b_t13, rfl, hH⟩
              have hS' := hH.pick [2, 3, 4, 5, 6] (Hs' := [_, _, _, _, _]) rfl
              replace hS := hS'; clear hS'
              refine ⟨fun _ _ => hS, ?_⟩
              intro a hA
              refine al hA 9 rfl (by kernel_rfl) (lo_call fn25 rfl (climb_at (climb_any (hg.mono0 hH) (clm p (i % qk) (ds.take k) k) (i / qk) _ (ds.drop k) hvl (hd.drop k) (Own.rd0 hO_t70 hH 1 rfl) (by omega) (by rw [hkd]; exact clm_quo hk hqk hqn hin)) hkd)) rfl (listed' := #[true, true, true, true, true, true, true, true, true, true, false, false, false, true, false, false]) rfl ?_
              rintro _ w ⟨rfl, hC⟩
              replace hH := HS.call0 hH hC
              clear hC
              refine ⟨fun _ h => absurd h (by decide), ?_⟩
              intro a hA
              refine apq hA 10 rfl (by kernel_rfl) (by intro c a d v w h; cases d <;> exact h) (fun w => (q_move rfl)) rfl (listed' := #[true, true, true, true, true, true, true, true, true, true, true, false, false, true, false, false]) rfl fun a hA => ?_
              refine apq hA 11 rfl (by kernel_rfl) (by intro c a d v w h; cases d <;> exact h) (fun w => (q_extract rfl rfl)) rfl (listed' := #[true, true, true, true, true, true, true, true, true, true, true, true, false, true, false, false]) rfl fun a hA => ?_
              refine apq hA 12 rfl (by kernel_rfl) (by intro c a d v w h; cases d <;> exact h) (fun w => (q_extract rfl rfl)) rfl (listed' := #[true, true, true, true, true, true, true, true, true, true, true, true, true, true, false, false]) rfl fun a hA => ?_
              refine al0 hA 14 rfl (by kernel_rfl) (lo_storeAm hH ti24 rfl rfl (by first | rfl | (simp; done) | (rw [List.length_map]; exact hvh) | exact hvh) (by first | rfl | (simp; done) | (rw [List.length_map]; exact hvh) | exact hvh) (one_B8 _)) (listed' := #[true, true, true, true, true, true, true, true, true, true, true, true, true, true, true, false]) rfl ?_
              clear hH; rintro _ w hH
              refine ⟨fun _ h => absurd h (by decide), ?_⟩
              refine apq hA 15 rfl (by kernel_rfl) (by intro c a d v w h; cases d <;> exact h) (fun w => (q_assign rfl)) rfl (listed' := #[true, true, true, true, true, true, true, true, true, true, true, true, true, true, true, true]) rfl fun a hA => ?_
              refine a_end (by kernel_rfl) ?_ _
              refine hK6 _ _ ?_
              clear hK6
              replace hA := hA.sub (E' := [(14, _), (13, _), (12, _), (10, _), (9, _), (8, _)]) ⟨rfl, rfl, rfl, rfl, rfl, rfl, trivial⟩
              refine wp_seq_k fun K8 hK8 => ?_
              refine wp_region_lit ?_
              refine sq hA (q_move rfl) rfl fun a hA => ?_
              refine sq hA (Runs.bt (q_eqlI (n := 0) rfl rfl) (by rfl)) rfl fun a hA => ?_
              refine sq hA (q_move rfl) rfl fun a hA => ?_
              refine gq hA rfl rfl (q_move rfl) rfl fun a hA => ?_
              refine gq hA rfl rfl (Runs.bt (q_eqlI (n := 0) rfl rfl) (by rfl)) rfl fun a hA => ?_
              refine sq hA (q_pick_t rfl rfl) rfl fun a hA => ?_
              refine sq hA (q_move rfl) rfl fun a hA => ?_
              refine gq hA rfl rfl (q_move rfl) rfl fun a hA => ?_
              refine gq hA rfl rfl (Runs.bt (q_eqlI (n := 0) rfl rfl) (by rfl)) rfl fun a hA => ?_
              refine sq hA (q_pick_t rfl rfl) rfl fun a hA => ?_
              refine sq hA (q_move rfl) rfl fun a hA => ?_
              refine gq hA rfl rfl (q_loadW hH 4 rfl Tryd.underlying24 rfl ti24 rfl (by first | rfl | (simp; done) | (rw [List.length_map]; exact hva) | exact hva)) rfl fun a hA => ?_
              refine gq hA rfl rfl (q_loadW hH 0 rfl Tryd.underlying24 rfl ti24 rfl (by first | rfl | (simp; done) | (rw [List.length_map]; exact hvh) | exact hvh)) rfl fun a hA => ?_
              refine gq hA rfl rfl (Runs.bt (q_eqlA8 (p := clm p i ds ds.length) (q := clm (clm p (i % qk) (ds.take k) k) (i / qk) (ds.drop k) (ds.length - k)) eqa24 rfl rfl rfl rfl (by first | exact hva | exact hvh) (by first | exact hva | exact hvh)) (by rw [hqk]; exact (clm_parts p i ds hk).symm)) rfl fun a hA => ?_
              refine sq hA (q_pick_t rfl rfl) rfl fun a hA => ?_
              refine sq hA (q_move rfl) rfl fun a hA => ?_
              refine gl hA rfl rfl (lo_call fn15 rfl (awake6_any (hg.mono0 hH))) rfl ?_
              rintro _ w ⟨rfl, hC⟩ a hA
              replace hH := HS.call0 hH hC
              clear hC
              refine sq hA (q_pick_t rfl rfl) rfl fun a hA => ?_
              refine sq hA (q_assign rfl) rfl fun a hA => ?_
              refine wpList_nil ?_
              refine hK8 _ _ ?_
              clear hK8
              replace hA := hA.sub (E' := [(8, _)]) ⟨rfl, trivial⟩
              refine wp_ret ?_
              refine post_ret hA (res_1 rfl hA rfl) ?_
              replace hH := hH.pick [] (Hs' := []) rfl
              exact ⟨_, rfl, rfl, hH⟩
          · skip
            refine oneL hA 13 rfl (lo_allocA hH ti24) rfl (listed' := #[true, true, true, true, true, true, true, true, false, false, false, false, false, true, false, false]) rfl ?_
            clear hH; rintro _ w ⟨b_t13, rfl, hH⟩
            have hS' := hH.pick [1, 2, 3, 4, 5] (Hs' := [_, _, _, _, _]) rfl
            replace hS := hS'; clear hS'
            refine ⟨fun _ _ => hS, ?_⟩
            intro a hA
            refine al hA 8 rfl (by kernel_rfl) (lo_call fn17 rfl (own6_any _ (ds.drop k) (hd.drop k) (hH.rd hO_t69) (by omega))) rfl (listed' := #[true, true, true, true, true, true, true, true, true, false, false, false, false, true, false, false]) rfl ?_
            rintro _ w ⟨v_t70, N_t70, rfl, hO_t70, hC⟩
            replace hH := HS.call0 hH hC
            clear hC
            have hS' := hH.pick [2, 3, 4, 5, 6] (Hs' := [_, _, _, _, _]) rfl
            replace hS := hS'; clear hS'
            refine ⟨fun _ _ => hS, ?_⟩
            intro a hA
            refine al hA 9 rfl (by kernel_rfl) (lo_call fn25 rfl (climb_at (climb_any (hg.mono0 hH) (clm p (i % qk) (ds.take k) k) (i / qk) _ (ds.drop k) hvl (hd.drop k) (Own.rd0 hO_t70 hH 0 rfl) (by omega) (by rw [hkd]; exact clm_quo hk hqk hqn hin)) hkd)) rfl (listed' := #[true, true, true, true, true, true, true, true, true, true, false, false, false, true, false, false]) rfl ?_
            rintro _ w ⟨rfl, hC⟩
            replace hH := HS.call0 hH hC
            clear hC
            refine ⟨fun _ h => absurd h (by decide), ?_⟩
            intro a hA
            refine apq hA 10 rfl (by kernel_rfl) (by intro c a d v w h; cases d <;> exact h) (fun w => (q_move rfl)) rfl (listed' := #[true, true, true, true, true, true, true, true, true, true, true, false, false, true, false, false]) rfl fun a hA => ?_
            refine apq hA 11 rfl (by kernel_rfl) (by intro c a d v w h; cases d <;> exact h) (fun w => (q_extract rfl rfl)) rfl (listed' := #[true, true, true, true, true, true, true, true, true, true, true, true, false, true, false, false]) rfl fun a hA => ?_
            refine apq hA 12 rfl (by kernel_rfl) (by intro c a d v w h; cases d <;> exact h) (fun w => (q_extract rfl rfl)) rfl (listed' := #[true, true, true, true, true, true, true, true, true, true, true, true, true, true, false, false]) rfl fun a hA => ?_
            replace hH := hH.pick [1, 0, 2, 3, 4, 5, 6] (Hs' := [_, _, _, _, _, _, _]) rfl
            refine al0 hA 14 rfl (by kernel_rfl) (lo_storeAm hH ti24 rfl rfl (by first | rfl | (simp; done) | (rw [List.length_map]; exact hvh) | exact hvh) (by first | rfl | (simp; done) | (rw [List.length_map]; exact hvh) | exact hvh) (one_B8 _)) (listed' := #[true, true, true, true, true, true, true, true, true, true, true, true, true, true, true, false]) rfl ?_
            clear hH; rintro _ w hH
            refine ⟨fun _ h => absurd h (by decide), ?_⟩
            refine apq hA 15 rfl (by kernel_rfl) (by intro c a d v w h; cases d <;> exact h) (fun w => (q_assign rfl)) rfl (listed' := #[true, true, true, true, true, true, true, true, true, true, true, true, true, true, true, true]) rfl fun a hA => ?_
            refine a_end (by kernel_rfl) ?_ _
            refine hK6 _ _ ?_
            clear hK6
            replace hA := hA.sub (E' := [(14, _), (13, _), (12, _), (10, _), (9, _), (8, _)]) ⟨rfl, rfl, rfl, rfl, rfl, rfl, trivial⟩
            refine wp_seq_k fun K9 hK9 => ?_
            refine wp_region_lit ?_
            refine sq hA (q_move rfl) rfl fun a hA => ?_
            refine sq hA (Runs.bt (q_eqlI (n := 0) rfl rfl) (by rfl)) rfl fun a hA => ?_
            refine sq hA (q_move rfl) rfl fun a hA => ?_
            refine gq hA rfl rfl (q_move rfl) rfl fun a hA => ?_
            refine gq hA rfl rfl (Runs.bt (q_eqlI (n := 0) rfl rfl) (by rfl)) rfl fun a hA => ?_
            refine sq hA (q_pick_t rfl rfl) rfl fun a hA => ?_
            refine sq hA (q_move rfl) rfl fun a hA => ?_
            refine gq hA rfl rfl (q_move rfl) rfl fun a hA => ?_
            refine gq hA rfl rfl (Runs.bt (q_eqlI (n := 0) rfl rfl) (by rfl)) rfl fun a hA => ?_
            refine sq hA (q_pick_t rfl rfl) rfl fun a hA => ?_
            refine sq hA (q_move rfl) rfl fun a hA => ?_
            refine gq hA rfl rfl (q_loadW hH 4 rfl Tryd.underlying24 rfl ti24 rfl (by first | rfl | (simp; done) | (rw [List.length_map]; exact hva) | exact hva)) rfl fun a hA => ?_
            refine gq hA rfl rfl (q_loadW hH 0 rfl Tryd.underlying24 rfl ti24 rfl (by first | rfl | (simp; done) | (rw [List.length_map]; exact hvh) | exact hvh)) rfl fun a hA => ?_
            refine gq hA rfl rfl (Runs.bt (q_eqlA8 (p := clm p i ds ds.length) (q := clm (clm p (i % qk) (ds.take k) k) (i / qk) (ds.drop k) (ds.length - k)) eqa24 rfl rfl rfl rfl (by first | exact hva | exact hvh) (by first | exact hva | exact hvh)) (by rw [hqk]; exact (clm_parts p i ds hk).symm)) rfl fun a hA => ?_
            refine sq hA (q_pick_t rfl rfl) rfl fun a hA => ?_
            refine sq hA (q_move rfl) rfl fun a hA => ?_
            refine gl hA rfl rfl (lo_call fn15 rfl (awake6_any (hg.mono0 hH))) rfl ?_
            rintro _ w ⟨rfl, hC⟩ a hA
            replace hH := HS.call0 hH hC
            clear hC
            refine sq hA (q_pick_t rfl rfl) rfl fun a hA => ?_
            refine sq hA (q_assign rfl) rfl fun a hA => ?_
            refine wpList_nil ?_
            refine hK9 _ _ ?_
            clear hK9
            replace hA := hA.sub (E' := [(8, _)]) ⟨rfl, trivial⟩
            refine wp_ret ?_
            refine post_ret hA (res_1 rfl hA rfl) ?_
            replace hH := hH.pick [] (Hs' := []) rfl
            exact ⟨_, rfl, rfl, hH⟩
        · skip
          refine oneL hA 13 rfl (lo_allocA hH ti24) rfl (listed' := #[true, true, true, true, true, true, true, true, true, false, false, false, false, true, false, false]) rfl ?_
          clear hH; rintro _ w ⟨b_t11, rfl, hH⟩
          have hS' := hH.pick [2, 3, 4] (Hs' := [_, _, _]) rfl
          replace hS := hS'; clear hS'
          refine ⟨fun _ _ => hS, ?_⟩
          intro a hA
          refine al hA 9 rfl (by kernel_rfl) (lo_call fn25 rfl (climb_at (climb_any (hg.mono0 hH) p (i % qk) _ (ds.take k) hp (hd.take k) (Own.rd0 hO_t57 hH 1 rfl) (by omega) (by rw [hkl, ← hqk]; exact Nat.mod_lt _ hqp)) hkl)) rfl (listed' := #[true, true, true, true, true, true, true, true, true, true, false, false, false, true, false, false]) rfl ?_
          rintro _ w ⟨rfl, hC⟩
          replace hH := HS.call0 hH hC
          clear hC
          refine ⟨fun _ h => absurd h (by decide), ?_⟩
          intro a hA
          refine apq hA 10 rfl (by kernel_rfl) (by intro c a d v w h; cases d <;> exact h) (fun w => (q_move rfl)) rfl (listed' := #[true, true, true, true, true, true, true, true, true, true, true, false, false, true, false, false]) rfl fun a hA => ?_
          refine apq hA 11 rfl (by kernel_rfl) (by intro c a d v w h; cases d <;> exact h) (fun w => (q_extract rfl rfl)) rfl (listed' := #[true, true, true, true, true, true, true, true, true, true, true, true, false, true, false, false]) rfl fun a hA => ?_
          refine apq hA 12 rfl (by kernel_rfl) (by intro c a d v w h; cases d <;> exact h) (fun w => (q_extract rfl rfl)) rfl (listed' := #[true, true, true, true, true, true, true, true, true, true, true, true, true, true, false, false]) rfl fun a hA => ?_
          refine al0 hA 14 rfl (by kernel_rfl) (lo_storeAm hH ti24 rfl rfl (by first | rfl | (simp; done) | (rw [List.length_map]; exact hvl) | exact hvl) (by first | rfl | (simp; done) | (rw [List.length_map]; exact hvl) | exact hvl) (one_B8 _)) (listed' := #[true, true, true, true, true, true, true, true, true, true, true, true, true, true, true, false]) rfl ?_
          clear hH; rintro _ w hH
          refine ⟨fun _ h => absurd h (by decide), ?_⟩
          refine apq hA 15 rfl (by kernel_rfl) (by intro c a d v w h; cases d <;> exact h) (fun w => (q_assign rfl)) rfl (listed' := #[true, true, true, true, true, true, true, true, true, true, true, true, true, true, true, true]) rfl fun a hA => ?_
          refine a_end (by kernel_rfl) ?_ _
          refine hK5 _ _ ?_
          clear hK5
          replace hA := hA.sub (E' := [(12, _), (11, _), (10, _), (9, _), (8, _), (1, _), (2, _), (3, _)]) ⟨rfl, rfl, rfl, rfl, rfl, rfl, rfl, rfl, trivial⟩
          refine wp_seq_k fun K10 hK10 => ?_
          refine any_go mixed (fun j => !(Nat.beq j 9 || Nat.beq j 14)) hH ?_
          clear hH; intro w hH
          have hS := hH
          change wpK _ _ _ _ _ _ 16 #[false, false, false, false, false, false, false, false, false, false, false, false, false, false, false, false] _ _
          refine aq hA 0 rfl (by kernel_rfl) (by intro c a d v w h; cases d <;> exact h) hS (fun w hH => (q_loadW hH 0 rfl Tryd.underlying24 rfl ti24 rfl (by first | rfl | (simp; done) | (rw [List.length_map]; exact hvl) | exact hvl))) rfl (listed' := #[true, false, false, false, false, false, false, false, false, false, false, false, false, false, false, false]) rfl fun a hA => ?_
          refine apq hA 1 rfl (by kernel_rfl) (by intro c a d v w h; cases d <;> exact h) (fun w => (q_move rfl)) rfl (listed' := #[true, true, false, false, false, false, false, false, false, false, false, false, false, false, false, false]) rfl fun a hA => ?_
          refine apq hA 2 rfl (by kernel_rfl) (by intro c a d v w h; cases d <;> exact h) (fun w => (q_move rfl)) rfl (listed' := #[true, true, true, false, false, false, false, false, false, false, false, false, false, false, false, false]) rfl fun a hA => ?_
          refine apq hA 3 rfl (by kernel_rfl) (by intro c a d v w h; cases d <;> exact h) (fun w => (q_shlI (n := k) (2 ^ k) rfl rfl (by omega) rfl (by omega))) rfl (listed' := #[true, true, true, true, false, false, false, false, false, false, false, false, false, false, false, false]) rfl fun a hA => ?_
          rw [hck] at hA
          refine apq hA 4 rfl (by kernel_rfl) (by intro c a d v w h; cases d <;> exact h) (fun w => (q_quoI rfl rfl (by omega))) rfl (listed' := #[true, true, true, true, true, false, false, false, false, false, false, false, false, false, false, false]) rfl fun a hA => ?_
          rw [show ((i : Nat) : Int) / ((qk : Nat) : Int) = ((i / qk : Nat) : Int) from (Int.natCast_ediv i qk).symm] at hA
          refine apq hA 5 rfl (by kernel_rfl) (by intro c a d v w h; cases d <;> exact h) (fun w => (q_move rfl)) rfl (listed' := #[true, true, true, true, true, true, false, false, false, false, false, false, false, false, false, false]) rfl fun a hA => ?_
          refine apq hA 6 rfl (by kernel_rfl) (by intro c a d v w h; cases d <;> exact h) (fun w => (q_move rfl)) rfl (listed' := #[true, true, true, true, true, true, true, false, false, false, false, false, false, false, false, false]) rfl fun a hA => ?_
          obtain ⟨v_t69, hv_t69, hO_t69⟩ := Rd.cut hr (k) (ds.length) (by first | omega | (simp; omega) | (simp [*]; omega)) (by first | omega | (simp; omega) | (simp [*]; omega))
          replace hO_t69 : RdD [] w0 v_t69 (ds.drop k) := RdD.dropOf hd hk hO_t69
          refine apq hA 7 rfl (by kernel_rfl) (by intro c a d v w h; cases d <;> exact h) (fun w => (q_slice Tryd.underlying22 ti24 rfl (k) (ds.length) hv_t69 (Rd.shp hr) rfl rfl (rfl) (by first | rfl | (simp; done) | omega) (by first | omega | (simp; omega) | (simp [*]; omega)) (by first | omega | (simp; omega) | (simp [*]; omega)))) rfl (listed' := #[true, true, true, true, true, true, true, true, false, false, false, false, false, false, false, false]) rfl fun a hA => ?_
          refine a_ch2 (i := 8) (j := 13) (by kernel_rfl) ?_ ?_
          · skip
            refine oneL hA 8 rfl (lo_call fn17 rfl (own6_any _ (ds.drop k) (hd.drop k) (hH.rd hO_t69) (by omega))) rfl (listed' := #[true, true, true, true, true, true, true, true, true, false, false, false, false, false, false, false]) rfl ?_
            rintro _ w ⟨v_t70, N_t70, rfl, hO_t70, hC⟩
            replace hH := HS.call0 hH hC
            clear hC
            have hS' := hH.pick [1, 2, 3, 4, 5] (Hs' := [_, _, _, _, _]) rfl
            replace hS := hS'; clear hS'
            refine ⟨fun _ _ => hS, ?_⟩
            intro a hA
            refine a_ch2 (i := 9) (j := 13) (by kernel_rfl) ?_ ?_
            · skip
              refine oneL hA 9 rfl (lo_call fn25 rfl (climb_at (climb_any (hg.mono0 hH) (clm p (i % qk) (ds.take k) k) (i / qk) _ (ds.drop k) hvl (hd.drop k) (Own.rd0 hO_t70 hH 0 rfl) (by omega) (by rw [hkd]; exact clm_quo hk hqk hqn hin)) hkd)) rfl (listed' := #[true, true, true, true, true, true, true, true, true, true, false, false, false, false, false, false]) rfl ?_
              rintro _ w ⟨rfl, hC⟩
              replace hH := HS.call0 hH hC
              clear hC
              refine ⟨fun _ h => absurd h (by decide), ?_⟩
              intro a hA
              refine apq hA 10 rfl (by kernel_rfl) (by intro c a d v w h; cases d <;> exact h) (fun w => (q_move rfl)) rfl (listed' := #[true, true, true, true, true, true, true, true, true, true, true, false, false, false, false, false]) rfl fun a hA => ?_
              refine apq hA 11 rfl (by kernel_rfl) (by intro c a d v w h; cases d <;> exact h) (fun w => (q_extract rfl rfl)) rfl (listed' := #[true, true, true, true, true, true, true, true, true, true, true, true, false, false, false, false]) rfl fun a hA => ?_
              refine apq hA 12 rfl (by kernel_rfl) (by intro c a d v w h; cases d <;> exact h) (fun w => (q_extract rfl rfl)) rfl (listed' := #[true, true, true, true, true, true, true, true, true, true, true, true, true, false, false, false]) rfl fun a hA => ?_
              refine al hA 13 rfl (by kernel_rfl) (lo_allocA hH ti24) rfl (listed' := #[true, true, true, true, true, true, true, true, true, true, true, true, true, true, false, false]) rfl ?_
              clear hH; rintro _ w ⟨b_t13, rfl, hH⟩
              have hS' := hH.pick [2, 3, 4, 5, 6] (Hs' := [_, _, _, _, _]) rfl
              replace hS := hS'; clear hS'
              refine ⟨fun _ _ => hS, ?_⟩
              intro a hA
              refine al0 hA 14 rfl (by kernel_rfl) (lo_storeAm hH ti24 rfl rfl (by first | rfl | (simp; done) | (rw [List.length_map]; exact hvh) | exact hvh) (by first | rfl | (simp; done) | (rw [List.length_map]; exact hvh) | exact hvh) (one_B8 _)) (listed' := #[true, true, true, true, true, true, true, true, true, true, true, true, true, true, true, false]) rfl ?_
              clear hH; rintro _ w hH
              refine ⟨fun _ h => absurd h (by decide), ?_⟩
              refine apq hA 15 rfl (by kernel_rfl) (by intro c a d v w h; cases d <;> exact h) (fun w => (q_assign rfl)) rfl (listed' := #[true, true, true, true, true, true, true, true, true, true, true, true, true, true, true, true]) rfl fun a hA => ?_
              refine a_end (by kernel_rfl) ?_ _
              refine hK10 _ _ ?_
              clear hK10
              replace hA := hA.sub (E' := [(14, _), (13, _), (12, _), (10, _), (9, _), (8, _)]) ⟨rfl, rfl, rfl, rfl, rfl, rfl, trivial⟩
              refine wp_seq_k fun K11 hK11 => ?_
              refine wp_region_lit ?_
              refine sq hA (q_move rfl) rfl fun a hA => ?_
              refine sq hA (Runs.bt (q_eqlI (n := 0) rfl rfl) (by rfl)) rfl fun a hA => ?_
              refine sq hA (q_move rfl) rfl fun a hA => ?_
              refine gq hA rfl rfl (q_move rfl) rfl fun a hA => ?_
              refine gq hA rfl rfl (Runs.bt (q_eqlI (n := 0) rfl rfl) (by rfl)) rfl fun a hA => ?_
              refine sq hA (q_pick_t rfl rfl) rfl fun a hA => ?_
              refine sq hA (q_move rfl) rfl fun a hA => ?_
              refine gq hA rfl rfl (q_move rfl) rfl fun a hA => ?_
              refine gq hA rfl rfl (Runs.bt (q_eqlI (n := 0) rfl rfl) (by rfl)) rfl fun a hA => ?_
              refine sq hA (q_pick_t rfl rfl) rfl fun a hA => ?_
              refine sq hA (q_move rfl) rfl fun a hA => ?_
              refine gq hA rfl rfl (q_loadW hH 4 rfl Tryd.underlying24 rfl ti24 rfl (by first | rfl | (simp; done) | (rw [List.length_map]; exact hva) | exact hva)) rfl fun a hA => ?_
              refine gq hA rfl rfl (q_loadW hH 0 rfl Tryd.underlying24 rfl ti24 rfl (by first | rfl | (simp; done) | (rw [List.length_map]; exact hvh) | exact hvh)) rfl fun a hA => ?_
              refine gq hA rfl rfl (Runs.bt (q_eqlA8 (p := clm p i ds ds.length) (q := clm (clm p (i % qk) (ds.take k) k) (i / qk) (ds.drop k) (ds.length - k)) eqa24 rfl rfl rfl rfl (by first | exact hva | exact hvh) (by first | exact hva | exact hvh)) (by rw [hqk]; exact (clm_parts p i ds hk).symm)) rfl fun a hA => ?_
              refine sq hA (q_pick_t rfl rfl) rfl fun a hA => ?_
              refine sq hA (q_move rfl) rfl fun a hA => ?_
              refine gl hA rfl rfl (lo_call fn15 rfl (awake6_any (hg.mono0 hH))) rfl ?_
              rintro _ w ⟨rfl, hC⟩ a hA
              replace hH := HS.call0 hH hC
              clear hC
              refine sq hA (q_pick_t rfl rfl) rfl fun a hA => ?_
              refine sq hA (q_assign rfl) rfl fun a hA => ?_
              refine wpList_nil ?_
              refine hK11 _ _ ?_
              clear hK11
              replace hA := hA.sub (E' := [(8, _)]) ⟨rfl, trivial⟩
              refine wp_ret ?_
              refine post_ret hA (res_1 rfl hA rfl) ?_
              replace hH := hH.pick [] (Hs' := []) rfl
              exact ⟨_, rfl, rfl, hH⟩
            · skip
              refine oneL hA 13 rfl (lo_allocA hH ti24) rfl (listed' := #[true, true, true, true, true, true, true, true, true, false, false, false, false, true, false, false]) rfl ?_
              clear hH; rintro _ w ⟨b_t13, rfl, hH⟩
              have hS' := hH.pick [2, 3, 4, 5, 6] (Hs' := [_, _, _, _, _]) rfl
              replace hS := hS'; clear hS'
              refine ⟨fun _ _ => hS, ?_⟩
              intro a hA
              refine al hA 9 rfl (by kernel_rfl) (lo_call fn25 rfl (climb_at (climb_any (hg.mono0 hH) (clm p (i % qk) (ds.take k) k) (i / qk) _ (ds.drop k) hvl (hd.drop k) (Own.rd0 hO_t70 hH 1 rfl) (by omega) (by rw [hkd]; exact clm_quo hk hqk hqn hin)) hkd)) rfl (listed' := #[true, true, true, true, true, true, true, true, true, true, false, false, false, true, false, false]) rfl ?_
              rintro _ w ⟨rfl, hC⟩
              replace hH := HS.call0 hH hC
              clear hC
              refine ⟨fun _ h => absurd h (by decide), ?_⟩
              intro a hA
              refine apq hA 10 rfl (by kernel_rfl) (by intro c a d v w h; cases d <;> exact h) (fun w => (q_move rfl)) rfl (listed' := #[true, true, true, true, true, true, true, true, true, true, true, false, false, true, false, false]) rfl fun a hA => ?_
              refine apq hA 11 rfl (by kernel_rfl) (by intro c a d v w h; cases d <;> exact h) (fun w => (q_extract rfl rfl)) rfl (listed' := #[true, true, true, true, true, true, true, true, true, true, true, true, false, true, false, false]) rfl fun a hA => ?_
              refine apq hA 12 rfl (by kernel_rfl) (by intro c a d v w h; cases d <;> exact h) (fun w => (q_extract rfl rfl)) rfl (listed' := #[true, true, true, true, true, true, true, true, true, true, true, true, true, true, false, false]) rfl fun a hA => ?_
              refine al0 hA 14 rfl (by kernel_rfl) (lo_storeAm hH ti24 rfl rfl (by first | rfl | (simp; done) | (rw [List.length_map]; exact hvh) | exact hvh) (by first | rfl | (simp; done) | (rw [List.length_map]; exact hvh) | exact hvh) (one_B8 _)) (listed' := #[true, true, true, true, true, true, true, true, true, true, true, true, true, true, true, false]) rfl ?_
              clear hH; rintro _ w hH
              refine ⟨fun _ h => absurd h (by decide), ?_⟩
              refine apq hA 15 rfl (by kernel_rfl) (by intro c a d v w h; cases d <;> exact h) (fun w => (q_assign rfl)) rfl (listed' := #[true, true, true, true, true, true, true, true, true, true, true, true, true, true, true, true]) rfl fun a hA => ?_
              refine a_end (by kernel_rfl) ?_ _
              refine hK10 _ _ ?_
              clear hK10
              replace hA := hA.sub (E' := [(14, _), (13, _), (12, _), (10, _), (9, _), (8, _)]) ⟨rfl, rfl, rfl, rfl, rfl, rfl, trivial⟩
              refine wp_seq_k fun K12 hK12 => ?_
              refine wp_region_lit ?_
              refine sq hA (q_move rfl) rfl fun a hA => ?_
              refine sq hA (Runs.bt (q_eqlI (n := 0) rfl rfl) (by rfl)) rfl fun a hA => ?_
              refine sq hA (q_move rfl) rfl fun a hA => ?_
              refine gq hA rfl rfl (q_move rfl) rfl fun a hA => ?_
              refine gq hA rfl rfl (Runs.bt (q_eqlI (n := 0) rfl rfl) (by rfl)) rfl fun a hA => ?_
              refine sq hA (q_pick_t rfl rfl) rfl fun a hA => ?_
              refine sq hA (q_move rfl) rfl fun a hA => ?_
              refine gq hA rfl rfl (q_move rfl) rfl fun a hA => ?_
              refine gq hA rfl rfl (Runs.bt (q_eqlI (n := 0) rfl rfl) (by rfl)) rfl fun a hA => ?_
              refine sq hA (q_pick_t rfl rfl) rfl fun a hA => ?_
              refine sq hA (q_move rfl) rfl fun a hA => ?_
              refine gq hA rfl rfl (q_loadW hH 4 rfl Tryd.underlying24 rfl ti24 rfl (by first | rfl | (simp; done) | (rw [List.length_map]; exact hva) | exact hva)) rfl fun a hA => ?_
              refine gq hA rfl rfl (q_loadW hH 0 rfl Tryd.underlying24 rfl ti24 rfl (by first | rfl | (simp; done) | (rw [List.length_map]; exact hvh) | exact hvh)) rfl fun a hA => ?_
              refine gq hA rfl rfl (Runs.bt (q_eqlA8 (p := clm p i ds ds.length) (q := clm (clm p (i % qk) (ds.take k) k) (i / qk) (ds.drop k) (ds.length - k)) eqa24 rfl rfl rfl rfl (by first | exact hva | exact hvh) (by first | exact hva | exact hvh)) (by rw [hqk]; exact (clm_parts p i ds hk).symm)) rfl fun a hA => ?_
              refine sq hA (q_pick_t rfl rfl) rfl fun a hA => ?_
              refine sq hA (q_move rfl) rfl fun a hA => ?_
              refine gl hA rfl rfl (lo_call fn15 rfl (awake6_any (hg.mono0 hH))) rfl ?_
              rintro _ w ⟨rfl, hC⟩ a hA
              replace hH := HS.call0 hH hC
              clear hC
              refine sq hA (q_pick_t rfl rfl) rfl fun a hA => ?_
              refine sq hA (q_assign rfl) rfl fun a hA => ?_
              refine wpList_nil ?_
              refine hK12 _ _ ?_
              clear hK12
              replace hA := hA.sub (E' := [(8, _)]) ⟨rfl, trivial⟩
              refine wp_ret ?_
              refine post_ret hA (res_1 rfl hA rfl) ?_
              replace hH := hH.pick [] (Hs' := []) rfl
              exact ⟨_, rfl, rfl, hH⟩
          · skip
            refine oneL hA 13 rfl (lo_allocA hH ti24) rfl (listed' := #[true, true, true, true, true, true, true, true, false, false, false, false, false, true, false, false]) rfl ?_
            clear hH; rintro _ w ⟨b_t13, rfl, hH⟩
            have hS' := hH.pick [1, 2, 3, 4, 5] (Hs' := [_, _, _, _, _]) rfl
            replace hS := hS'; clear hS'
            refine ⟨fun _ _ => hS, ?_⟩
            intro a hA
            refine al hA 8 rfl (by kernel_rfl) (lo_call fn17 rfl (own6_any _ (ds.drop k) (hd.drop k) (hH.rd hO_t69) (by omega))) rfl (listed' := #[true, true, true, true, true, true, true, true, true, false, false, false, false, true, false, false]) rfl ?_
            rintro _ w ⟨v_t70, N_t70, rfl, hO_t70, hC⟩
            replace hH := HS.call0 hH hC
            clear hC
            have hS' := hH.pick [2, 3, 4, 5, 6] (Hs' := [_, _, _, _, _]) rfl
            replace hS := hS'; clear hS'
            refine ⟨fun _ _ => hS, ?_⟩
            intro a hA
            refine al hA 9 rfl (by kernel_rfl) (lo_call fn25 rfl (climb_at (climb_any (hg.mono0 hH) (clm p (i % qk) (ds.take k) k) (i / qk) _ (ds.drop k) hvl (hd.drop k) (Own.rd0 hO_t70 hH 0 rfl) (by omega) (by rw [hkd]; exact clm_quo hk hqk hqn hin)) hkd)) rfl (listed' := #[true, true, true, true, true, true, true, true, true, true, false, false, false, true, false, false]) rfl ?_
            rintro _ w ⟨rfl, hC⟩
            replace hH := HS.call0 hH hC
            clear hC
            refine ⟨fun _ h => absurd h (by decide), ?_⟩
            intro a hA
            refine apq hA 10 rfl (by kernel_rfl) (by intro c a d v w h; cases d <;> exact h) (fun w => (q_move rfl)) rfl (listed' := #[true, true, true, true, true, true, true, true, true, true, true, false, false, true, false, false]) rfl fun a hA => ?_
            refine apq hA 11 rfl (by kernel_rfl) (by intro c a d v w h; cases d <;> exact h) (fun w => (q_extract rfl rfl)) rfl (listed' := #[true, true, true, true, true, true, true, true, true, true, true, true, false, true, false, false]) rfl fun a hA => ?_
            refine apq hA 12 rfl (by kernel_rfl) (by intro c a d v w h; cases d <;> exact h) (fun w => (q_extract rfl rfl)) rfl (listed' := #[true, true, true, true, true, true, true, true, true, true, true, true, true, true, false, false]) rfl fun a hA => ?_
            replace hH := hH.pick [1, 0, 2, 3, 4, 5, 6] (Hs' := [_, _, _, _, _, _, _]) rfl
            refine al0 hA 14 rfl (by kernel_rfl) (lo_storeAm hH ti24 rfl rfl (by first | rfl | (simp; done) | (rw [List.length_map]; exact hvh) | exact hvh) (by first | rfl | (simp; done) | (rw [List.length_map]; exact hvh) | exact hvh) (one_B8 _)) (listed' := #[true, true, true, true, true, true, true, true, true, true, true, true, true, true, true, false]) rfl ?_
            clear hH; rintro _ w hH
            refine ⟨fun _ h => absurd h (by decide), ?_⟩
            refine apq hA 15 rfl (by kernel_rfl) (by intro c a d v w h; cases d <;> exact h) (fun w => (q_assign rfl)) rfl (listed' := #[true, true, true, true, true, true, true, true, true, true, true, true, true, true, true, true]) rfl fun a hA => ?_
            refine a_end (by kernel_rfl) ?_ _
            refine hK10 _ _ ?_
            clear hK10
            replace hA := hA.sub (E' := [(14, _), (13, _), (12, _), (10, _), (9, _), (8, _)]) ⟨rfl, rfl, rfl, rfl, rfl, rfl, trivial⟩
            refine wp_seq_k fun K13 hK13 => ?_
            refine wp_region_lit ?_
            refine sq hA (q_move rfl) rfl fun a hA => ?_
            refine sq hA (Runs.bt (q_eqlI (n := 0) rfl rfl) (by rfl)) rfl fun a hA => ?_
            refine sq hA (q_move rfl) rfl fun a hA => ?_
            refine gq hA rfl rfl (q_move rfl) rfl fun a hA => ?_
            refine gq hA rfl rfl (Runs.bt (q_eqlI (n := 0) rfl rfl) (by rfl)) rfl fun a hA => ?_
            refine sq hA (q_pick_t rfl rfl) rfl fun a hA => ?_
            refine sq hA (q_move rfl) rfl fun a hA => ?_
            refine gq hA rfl rfl (q_move rfl) rfl fun a hA => ?_
            refine gq hA rfl rfl (Runs.bt (q_eqlI (n := 0) rfl rfl) (by rfl)) rfl fun a hA => ?_
            refine sq hA (q_pick_t rfl rfl) rfl fun a hA => ?_
            refine sq hA (q_move rfl) rfl fun a hA => ?_
            refine gq hA rfl rfl (q_loadW hH 4 rfl Tryd.underlying24 rfl ti24 rfl (by first | rfl | (simp; done) | (rw [List.length_map]; exact hva) | exact hva)) rfl fun a hA => ?_
            refine gq hA rfl rfl (q_loadW hH 0 rfl Tryd.underlying24 rfl ti24 rfl (by first | rfl | (simp; done) | (rw [List.length_map]; exact hvh) | exact hvh)) rfl fun a hA => ?_
            refine gq hA rfl rfl (Runs.bt (q_eqlA8 (p := clm p i ds ds.length) (q := clm (clm p (i % qk) (ds.take k) k) (i / qk) (ds.drop k) (ds.length - k)) eqa24 rfl rfl rfl rfl (by first | exact hva | exact hvh) (by first | exact hva | exact hvh)) (by rw [hqk]; exact (clm_parts p i ds hk).symm)) rfl fun a hA => ?_
            refine sq hA (q_pick_t rfl rfl) rfl fun a hA => ?_
            refine sq hA (q_move rfl) rfl fun a hA => ?_
            refine gl hA rfl rfl (lo_call fn15 rfl (awake6_any (hg.mono0 hH))) rfl ?_
            rintro _ w ⟨rfl, hC⟩ a hA
            replace hH := HS.call0 hH hC
            clear hC
            refine sq hA (q_pick_t rfl rfl) rfl fun a hA => ?_
            refine sq hA (q_assign rfl) rfl fun a hA => ?_
            refine wpList_nil ?_
            refine hK13 _ _ ?_
            clear hK13
            replace hA := hA.sub (E' := [(8, _)]) ⟨rfl, trivial⟩
            refine wp_ret ?_
            refine post_ret hA (res_1 rfl hA rfl) ?_
            replace hH := hH.pick [] (Hs' := []) rfl
            exact ⟨_, rfl, rfl, hH⟩
      · skip
        refine oneL hA 13 rfl (lo_allocA hH ti24) rfl (listed' := #[true, true, true, true, true, true, true, true, false, false, false, false, false, true, false, false]) rfl ?_
        clear hH; rintro _ w ⟨b_t11, rfl, hH⟩
        have hS' := hH.pick [1, 2, 3] (Hs' := [_, _, _]) rfl
        replace hS := hS'; clear hS'
        refine ⟨fun _ _ => hS, ?_⟩
        intro a hA
        refine al hA 8 rfl (by kernel_rfl) (lo_call fn17 rfl (own6_any _ (ds.take k) (hd.take k) (hH.rd hO_t56) (by omega))) rfl (listed' := #[true, true, true, true, true, true, true, true, true, false, false, false, false, true, false, false]) rfl ?_
        rintro _ w ⟨v_t57, N_t57, rfl, hO_t57, hC⟩
        replace hH := HS.call0 hH hC
        clear hC
        have hS' := hH.pick [2, 3, 4] (Hs' := [_, _, _]) rfl
        replace hS := hS'; clear hS'
        refine ⟨fun _ _ => hS, ?_⟩
        intro a hA
        refine al hA 9 rfl (by kernel_rfl) (lo_call fn25 rfl (climb_at (climb_any (hg.mono0 hH) p (i % qk) _ (ds.take k) hp (hd.take k) (Own.rd0 hO_t57 hH 0 rfl) (by omega) (by rw [hkl, ← hqk]; exact Nat.mod_lt _ hqp)) hkl)) rfl (listed' := #[true, true, true, true, true, true, true, true, true, true, false, false, false, true, false, false]) rfl ?_
        rintro _ w ⟨rfl, hC⟩
        replace hH := HS.call0 hH hC
        clear hC
        refine ⟨fun _ h => absurd h (by decide), ?_⟩
        intro a hA
        refine apq hA 10 rfl (by kernel_rfl) (by intro c a d v w h; cases d <;> exact h) (fun w => (q_move rfl)) rfl (listed' := #[true, true, true, true, true, true, true, true, true, true, true, false, false, true, false, false]) rfl fun a hA => ?_
        refine apq hA 11 rfl (by kernel_rfl) (by intro c a d v w h; cases d <;> exact h) (fun w => (q_extract rfl rfl)) rfl (listed' := #[true, true, true, true, true, true, true, true, true, true, true, true, false, true, false, false]) rfl fun a hA => ?_
        refine apq hA 12 rfl (by kernel_rfl) (by intro c a d v w h; cases d <;> exact h) (fun w => (q_extract rfl rfl)) rfl (listed' := #[true, true, true, true, true, true, true, true, true, true, true, true, true, true, false, false]) rfl fun a hA => ?_
        replace hH := hH.pick [1, 0, 2, 3, 4] (Hs' := [_, _, _, _, _]) rfl
        refine al0 hA 14 rfl (by kernel_rfl) (lo_storeAm hH ti24 rfl rfl (by first | rfl | (simp; done) | (rw [List.length_map]; exact hvl) | exact hvl) (by first | rfl | (simp; done) | (rw [List.length_map]; exact hvl) | exact hvl) (one_B8 _)) (listed' := #[true, true, true, true, true, true, true, true, true, true, true, true, true, true, true, false]) rfl ?_
        clear hH; rintro _ w hH
        refine ⟨fun _ h => absurd h (by decide), ?_⟩
        refine apq hA 15 rfl (by kernel_rfl) (by intro c a d v w h; cases d <;> exact h) (fun w => (q_assign rfl)) rfl (listed' := #[true, true, true, true, true, true, true, true, true, true, true, true, true, true, true, true]) rfl fun a hA => ?_
        refine a_end (by kernel_rfl) ?_ _
        refine hK5 _ _ ?_
        clear hK5
        replace hA := hA.sub (E' := [(12, _), (11, _), (10, _), (9, _), (8, _), (1, _), (2, _), (3, _)]) ⟨rfl, rfl, rfl, rfl, rfl, rfl, rfl, rfl, trivial⟩
        refine wp_seq_k fun K14 hK14 => ?_
        refine any_go mixed (fun j => !(Nat.beq j 9 || Nat.beq j 14)) hH ?_
        clear hH; intro w hH
        have hS := hH
        change wpK _ _ _ _ _ _ 16 #[false, false, false, false, false, false, false, false, false, false, false, false, false, false, false, false] _ _
        refine aq hA 0 rfl (by kernel_rfl) (by intro c a d v w h; cases d <;> exact h) hS (fun w hH => (q_loadW hH 0 rfl Tryd.underlying24 rfl ti24 rfl (by first | rfl | (simp; done) | (rw [List.length_map]; exact hvl) | exact hvl))) rfl (listed' := #[true, false, false, false, false, false, false, false, false, false, false, false, false, false, false, false]) rfl fun a hA => ?_
        refine apq hA 1 rfl (by kernel_rfl) (by intro c a d v w h; cases d <;> exact h) (fun w => (q_move rfl)) rfl (listed' := #[true, true, false, false, false, false, false, false, false, false, false, false, false, false, false, false]) rfl fun a hA => ?_
        refine apq hA 2 rfl (by kernel_rfl) (by intro c a d v w h; cases d <;> exact h) (fun w => (q_move rfl)) rfl (listed' := #[true, true, true, false, false, false, false, false, false, false, false, false, false, false, false, false]) rfl fun a hA => ?_
        refine apq hA 3 rfl (by kernel_rfl) (by intro c a d v w h; cases d <;> exact h) (fun w => (q_shlI (n := k) (2 ^ k) rfl rfl (by omega) rfl (by omega))) rfl (listed' := #[true, true, true, true, false, false, false, false, false, false, false, false, false, false, false, false]) rfl fun a hA => ?_
        rw [hck] at hA
        refine apq hA 4 rfl (by kernel_rfl) (by intro c a d v w h; cases d <;> exact h) (fun w => (q_quoI rfl rfl (by omega))) rfl (listed' := #[true, true, true, true, true, false, false, false, false, false, false, false, false, false, false, false]) rfl fun a hA => ?_
        rw [show ((i : Nat) : Int) / ((qk : Nat) : Int) = ((i / qk : Nat) : Int) from (Int.natCast_ediv i qk).symm] at hA
        refine apq hA 5 rfl (by kernel_rfl) (by intro c a d v w h; cases d <;> exact h) (fun w => (q_move rfl)) rfl (listed' := #[true, true, true, true, true, true, false, false, false, false, false, false, false, false, false, false]) rfl fun a hA => ?_
        refine apq hA 6 rfl (by kernel_rfl) (by intro c a d v w h; cases d <;> exact h) (fun w => (q_move rfl)) rfl (listed' := #[true, true, true, true, true, true, true, false, false, false, false, false, false, false, false, false]) rfl fun a hA => ?_
        obtain ⟨v_t69, hv_t69, hO_t69⟩ := Rd.cut hr (k) (ds.length) (by first | omega | (simp; omega) | (simp [*]; omega)) (by first | omega | (simp; omega) | (simp [*]; omega))
        replace hO_t69 : RdD [] w0 v_t69 (ds.drop k) := RdD.dropOf hd hk hO_t69
        refine apq hA 7 rfl (by kernel_rfl) (by intro c a d v w h; cases d <;> exact h) (fun w => (q_slice Tryd.underlying22 ti24 rfl (k) (ds.length) hv_t69 (Rd.shp hr) rfl rfl (rfl) (by first | rfl | (simp; done) | omega) (by first | omega | (simp; omega) | (simp [*]; omega)) (by first | omega | (simp; omega) | (simp [*]; omega)))) rfl (listed' := #[true, true, true, true, true, true, true, true, false, false, false, false, false, false, false, false]) rfl fun a hA => ?_
        refine a_ch2 (i := 8) (j := 13) (by kernel_rfl) ?_ ?_
        · skip
          refine oneL hA 8 rfl (lo_call fn17 rfl (own6_any _ (ds.drop k) (hd.drop k) (hH.rd hO_t69) (by omega))) rfl (listed' := #[true, true, true, true, true, true, true, true, true, false, false, false, false, false, false, false]) rfl ?_
          rintro _ w ⟨v_t70, N_t70, rfl, hO_t70, hC⟩
          replace hH := HS.call0 hH hC
          clear hC
          have hS' := hH.pick [1, 2, 3, 4, 5] (Hs' := [_, _, _, _, _]) rfl
          replace hS := hS'; clear hS'
          refine ⟨fun _ _ => hS, ?_⟩
          intro a hA
          refine a_ch2 (i := 9) (j := 13) (by kernel_rfl) ?_ ?_
          · skip
            refine oneL hA 9 rfl (lo_call fn25 rfl (climb_at (climb_any (hg.mono0 hH) (clm p (i % qk) (ds.take k) k) (i / qk) _ (ds.drop k) hvl (hd.drop k) (Own.rd0 hO_t70 hH 0 rfl) (by omega) (by rw [hkd]; exact clm_quo hk hqk hqn hin)) hkd)) rfl (listed' := #[true, true, true, true, true, true, true, true, true, true, false, false, false, false, false, false]) rfl ?_
            rintro _ w ⟨rfl, hC⟩
            replace hH := HS.call0 hH hC
            clear hC
            refine ⟨fun _ h => absurd h (by decide), ?_⟩
            intro a hA
            refine apq hA 10 rfl (by kernel_rfl) (by intro c a d v w h; cases d <;> exact h) (fun w => (q_move rfl)) rfl (listed' := #[true, true, true, true, true, true, true, true, true, true, true, false, false, false, false, false]) rfl fun a hA => ?_
            refine apq hA 11 rfl (by kernel_rfl) (by intro c a d v w h; cases d <;> exact h) (fun w => (q_extract rfl rfl)) rfl (listed' := #[true, true, true, true, true, true, true, true, true, true, true, true, false, false, false, false]) rfl fun a hA => ?_
            refine apq hA 12 rfl (by kernel_rfl) (by intro c a d v w h; cases d <;> exact h) (fun w => (q_extract rfl rfl)) rfl (listed' := #[true, true, true, true, true, true, true, true, true, true, true, true, true, false, false, false]) rfl fun a hA => ?_
            refine al hA 13 rfl (by kernel_rfl) (lo_allocA hH ti24) rfl (listed' := #[true, true, true, true, true, true, true, true, true, true, true, true, true, true, false, false]) rfl ?_
            clear hH; rintro _ w ⟨b_t13, rfl, hH⟩
            have hS' := hH.pick [2, 3, 4, 5, 6] (Hs' := [_, _, _, _, _]) rfl
            replace hS := hS'; clear hS'
            refine ⟨fun _ _ => hS, ?_⟩
            intro a hA
            refine al0 hA 14 rfl (by kernel_rfl) (lo_storeAm hH ti24 rfl rfl (by first | rfl | (simp; done) | (rw [List.length_map]; exact hvh) | exact hvh) (by first | rfl | (simp; done) | (rw [List.length_map]; exact hvh) | exact hvh) (one_B8 _)) (listed' := #[true, true, true, true, true, true, true, true, true, true, true, true, true, true, true, false]) rfl ?_
            clear hH; rintro _ w hH
            refine ⟨fun _ h => absurd h (by decide), ?_⟩
            refine apq hA 15 rfl (by kernel_rfl) (by intro c a d v w h; cases d <;> exact h) (fun w => (q_assign rfl)) rfl (listed' := #[true, true, true, true, true, true, true, true, true, true, true, true, true, true, true, true]) rfl fun a hA => ?_
            refine a_end (by kernel_rfl) ?_ _
            refine hK14 _ _ ?_
            clear hK14
            replace hA := hA.sub (E' := [(14, _), (13, _), (12, _), (10, _), (9, _), (8, _)]) ⟨rfl, rfl, rfl, rfl, rfl, rfl, trivial⟩
            refine wp_seq_k fun K15 hK15 => ?_
            refine wp_region_lit ?_
            refine sq hA (q_move rfl) rfl fun a hA => ?_
            refine sq hA (Runs.bt (q_eqlI (n := 0) rfl rfl) (by rfl)) rfl fun a hA => ?_
            refine sq hA (q_move rfl) rfl fun a hA => ?_
            refine gq hA rfl rfl (q_move rfl) rfl fun a hA => ?_
            refine gq hA rfl rfl (Runs.bt (q_eqlI (n := 0) rfl rfl) (by rfl)) rfl fun a hA => ?_
            refine sq hA (q_pick_t rfl rfl) rfl fun a hA => ?_
            refine sq hA (q_move rfl) rfl fun a hA => ?_
            refine gq hA rfl rfl (q_move rfl) rfl fun a hA => ?_
            refine gq hA rfl rfl (Runs.bt (q_eqlI (n := 0) rfl rfl) (by rfl)) rfl fun a hA => ?_
            refine sq hA (q_pick_t rfl rfl) rfl fun a hA => ?_
            refine sq hA (q_move rfl) rfl fun a hA => ?_
            refine gq hA rfl rfl (q_loadW hH 4 rfl Tryd.underlying24 rfl ti24 rfl (by first | rfl | (simp; done) | (rw [List.length_map]; exact hva) | exact hva)) rfl fun a hA => ?_
            refine gq hA rfl rfl (q_loadW hH 0 rfl Tryd.underlying24 rfl ti24 rfl (by first | rfl | (simp; done) | (rw [List.length_map]; exact hvh) | exact hvh)) rfl fun a hA => ?_
            refine gq hA rfl rfl (Runs.bt (q_eqlA8 (p := clm p i ds ds.length) (q := clm (clm p (i % qk) (ds.take k) k) (i / qk) (ds.drop k) (ds.length - k)) eqa24 rfl rfl rfl rfl (by first | exact hva | exact hvh) (by first | exact hva | exact hvh)) (by rw [hqk]; exact (clm_parts p i ds hk).symm)) rfl fun a hA => ?_
            refine sq hA (q_pick_t rfl rfl) rfl fun a hA => ?_
            refine sq hA (q_move rfl) rfl fun a hA => ?_
            refine gl hA rfl rfl (lo_call fn15 rfl (awake6_any (hg.mono0 hH))) rfl ?_
            rintro _ w ⟨rfl, hC⟩ a hA
            replace hH := HS.call0 hH hC
            clear hC
            refine sq hA (q_pick_t rfl rfl) rfl fun a hA => ?_
            refine sq hA (q_assign rfl) rfl fun a hA => ?_
            refine wpList_nil ?_
            refine hK15 _ _ ?_
            clear hK15
            replace hA := hA.sub (E' := [(8, _)]) ⟨rfl, trivial⟩
            refine wp_ret ?_
            refine post_ret hA (res_1 rfl hA rfl) ?_
            replace hH := hH.pick [] (Hs' := []) rfl
            exact ⟨_, rfl, rfl, hH⟩
          · skip
            refine oneL hA 13 rfl (lo_allocA hH ti24) rfl (listed' := #[true, true, true, true, true, true, true, true, true, false, false, false, false, true, false, false]) rfl ?_
            clear hH; rintro _ w ⟨b_t13, rfl, hH⟩
            have hS' := hH.pick [2, 3, 4, 5, 6] (Hs' := [_, _, _, _, _]) rfl
            replace hS := hS'; clear hS'
            refine ⟨fun _ _ => hS, ?_⟩
            intro a hA
            refine al hA 9 rfl (by kernel_rfl) (lo_call fn25 rfl (climb_at (climb_any (hg.mono0 hH) (clm p (i % qk) (ds.take k) k) (i / qk) _ (ds.drop k) hvl (hd.drop k) (Own.rd0 hO_t70 hH 1 rfl) (by omega) (by rw [hkd]; exact clm_quo hk hqk hqn hin)) hkd)) rfl (listed' := #[true, true, true, true, true, true, true, true, true, true, false, false, false, true, false, false]) rfl ?_
            rintro _ w ⟨rfl, hC⟩
            replace hH := HS.call0 hH hC
            clear hC
            refine ⟨fun _ h => absurd h (by decide), ?_⟩
            intro a hA
            refine apq hA 10 rfl (by kernel_rfl) (by intro c a d v w h; cases d <;> exact h) (fun w => (q_move rfl)) rfl (listed' := #[true, true, true, true, true, true, true, true, true, true, true, false, false, true, false, false]) rfl fun a hA => ?_
            refine apq hA 11 rfl (by kernel_rfl) (by intro c a d v w h; cases d <;> exact h) (fun w => (q_extract rfl rfl)) rfl (listed' := #[true, true, true, true, true, true, true, true, true, true, true, true, false, true, false, false]) rfl fun a hA => ?_
            refine apq hA 12 rfl (by kernel_rfl) (by intro c a d v w h; cases d <;> exact h) (fun w => (q_extract rfl rfl)) rfl (listed' := #[true, true, true, true, true, true, true, true, true, true, true, true, true, true, false, false]) rfl fun a hA => ?_
            refine al0 hA 14 rfl (by kernel_rfl) (lo_storeAm hH ti24 rfl rfl (by first | rfl | (simp; done) | (rw [List.length_map]; exact hvh) | exact hvh) (by first | rfl | (simp; done) | (rw [List.length_map]; exact hvh) | exact hvh) (one_B8 _)) (listed' := #[true, true, true, true, true, true, true, true, true, true, true, true, true, true, true, false]) rfl ?_
            clear hH; rintro _ w hH
            refine ⟨fun _ h => absurd h (by decide), ?_⟩
            refine apq hA 15 rfl (by kernel_rfl) (by intro c a d v w h; cases d <;> exact h) (fun w => (q_assign rfl)) rfl (listed' := #[true, true, true, true, true, true, true, true, true, true, true, true, true, true, true, true]) rfl fun a hA => ?_
            refine a_end (by kernel_rfl) ?_ _
            refine hK14 _ _ ?_
            clear hK14
            replace hA := hA.sub (E' := [(14, _), (13, _), (12, _), (10, _), (9, _), (8, _)]) ⟨rfl, rfl, rfl, rfl, rfl, rfl, trivial⟩
            refine wp_seq_k fun K16 hK16 => ?_
            refine wp_region_lit ?_
            refine sq hA (q_move rfl) rfl fun a hA => ?_
            refine sq hA (Runs.bt (q_eqlI (n := 0) rfl rfl) (by rfl)) rfl fun a hA => ?_
            refine sq hA (q_move rfl) rfl fun a hA => ?_
            refine gq hA rfl rfl (q_move rfl) rfl fun a hA => ?_
            refine gq hA rfl rfl (Runs.bt (q_eqlI (n := 0) rfl rfl) (by rfl)) rfl fun a hA => ?_
            refine sq hA (q_pick_t rfl rfl) rfl fun a hA => ?_
            refine sq hA (q_move rfl) rfl fun a hA => ?_
            refine gq hA rfl rfl (q_move rfl) rfl fun a hA => ?_
            refine gq hA rfl rfl (Runs.bt (q_eqlI (n := 0) rfl rfl) (by rfl)) rfl fun a hA => ?_
            refine sq hA (q_pick_t rfl rfl) rfl fun a hA => ?_
            refine sq hA (q_move rfl) rfl fun a hA => ?_
            refine gq hA rfl rfl (q_loadW hH 4 rfl Tryd.underlying24 rfl ti24 rfl (by first | rfl | (simp; done) | (rw [List.length_map]; exact hva) | exact hva)) rfl fun a hA => ?_
            refine gq hA rfl rfl (q_loadW hH 0 rfl Tryd.underlying24 rfl ti24 rfl (by first | rfl | (simp; done) | (rw [List.length_map]; exact hvh) | exact hvh)) rfl fun a hA => ?_
            refine gq hA rfl rfl (Runs.bt (q_eqlA8 (p := clm p i ds ds.length) (q := clm (clm p (i % qk) (ds.take k) k) (i / qk) (ds.drop k) (ds.length - k)) eqa24 rfl rfl rfl rfl (by first | exact hva | exact hvh) (by first | exact hva | exact hvh)) (by rw [hqk]; exact (clm_parts p i ds hk).symm)) rfl fun a hA => ?_
            refine sq hA (q_pick_t rfl rfl) rfl fun a hA => ?_
            refine sq hA (q_move rfl) rfl fun a hA => ?_
            refine gl hA rfl rfl (lo_call fn15 rfl (awake6_any (hg.mono0 hH))) rfl ?_
            rintro _ w ⟨rfl, hC⟩ a hA
            replace hH := HS.call0 hH hC
            clear hC
            refine sq hA (q_pick_t rfl rfl) rfl fun a hA => ?_
            refine sq hA (q_assign rfl) rfl fun a hA => ?_
            refine wpList_nil ?_
            refine hK16 _ _ ?_
            clear hK16
            replace hA := hA.sub (E' := [(8, _)]) ⟨rfl, trivial⟩
            refine wp_ret ?_
            refine post_ret hA (res_1 rfl hA rfl) ?_
            replace hH := hH.pick [] (Hs' := []) rfl
            exact ⟨_, rfl, rfl, hH⟩
        · skip
          refine oneL hA 13 rfl (lo_allocA hH ti24) rfl (listed' := #[true, true, true, true, true, true, true, true, false, false, false, false, false, true, false, false]) rfl ?_
          clear hH; rintro _ w ⟨b_t13, rfl, hH⟩
          have hS' := hH.pick [1, 2, 3, 4, 5] (Hs' := [_, _, _, _, _]) rfl
          replace hS := hS'; clear hS'
          refine ⟨fun _ _ => hS, ?_⟩
          intro a hA
          refine al hA 8 rfl (by kernel_rfl) (lo_call fn17 rfl (own6_any _ (ds.drop k) (hd.drop k) (hH.rd hO_t69) (by omega))) rfl (listed' := #[true, true, true, true, true, true, true, true, true, false, false, false, false, true, false, false]) rfl ?_
          rintro _ w ⟨v_t70, N_t70, rfl, hO_t70, hC⟩
          replace hH := HS.call0 hH hC
          clear hC
          have hS' := hH.pick [2, 3, 4, 5, 6] (Hs' := [_, _, _, _, _]) rfl
          replace hS := hS'; clear hS'
          refine ⟨fun _ _ => hS, ?_⟩
          intro a hA
          refine al hA 9 rfl (by kernel_rfl) (lo_call fn25 rfl (climb_at (climb_any (hg.mono0 hH) (clm p (i % qk) (ds.take k) k) (i / qk) _ (ds.drop k) hvl (hd.drop k) (Own.rd0 hO_t70 hH 0 rfl) (by omega) (by rw [hkd]; exact clm_quo hk hqk hqn hin)) hkd)) rfl (listed' := #[true, true, true, true, true, true, true, true, true, true, false, false, false, true, false, false]) rfl ?_
          rintro _ w ⟨rfl, hC⟩
          replace hH := HS.call0 hH hC
          clear hC
          refine ⟨fun _ h => absurd h (by decide), ?_⟩
          intro a hA
          refine apq hA 10 rfl (by kernel_rfl) (by intro c a d v w h; cases d <;> exact h) (fun w => (q_move rfl)) rfl (listed' := #[true, true, true, true, true, true, true, true, true, true, true, false, false, true, false, false]) rfl fun a hA => ?_
          refine apq hA 11 rfl (by kernel_rfl) (by intro c a d v w h; cases d <;> exact h) (fun w => (q_extract rfl rfl)) rfl (listed' := #[true, true, true, true, true, true, true, true, true, true, true, true, false, true, false, false]) rfl fun a hA => ?_
          refine apq hA 12 rfl (by kernel_rfl) (by intro c a d v w h; cases d <;> exact h) (fun w => (q_extract rfl rfl)) rfl (listed' := #[true, true, true, true, true, true, true, true, true, true, true, true, true, true, false, false]) rfl fun a hA => ?_
          replace hH := hH.pick [1, 0, 2, 3, 4, 5, 6] (Hs' := [_, _, _, _, _, _, _]) rfl
          refine al0 hA 14 rfl (by kernel_rfl) (lo_storeAm hH ti24 rfl rfl (by first | rfl | (simp; done) | (rw [List.length_map]; exact hvh) | exact hvh) (by first | rfl | (simp; done) | (rw [List.length_map]; exact hvh) | exact hvh) (one_B8 _)) (listed' := #[true, true, true, true, true, true, true, true, true, true, true, true, true, true, true, false]) rfl ?_
          clear hH; rintro _ w hH
          refine ⟨fun _ h => absurd h (by decide), ?_⟩
          refine apq hA 15 rfl (by kernel_rfl) (by intro c a d v w h; cases d <;> exact h) (fun w => (q_assign rfl)) rfl (listed' := #[true, true, true, true, true, true, true, true, true, true, true, true, true, true, true, true]) rfl fun a hA => ?_
          refine a_end (by kernel_rfl) ?_ _
          refine hK14 _ _ ?_
          clear hK14
          replace hA := hA.sub (E' := [(14, _), (13, _), (12, _), (10, _), (9, _), (8, _)]) ⟨rfl, rfl, rfl, rfl, rfl, rfl, trivial⟩
          refine wp_seq_k fun K17 hK17 => ?_
          refine wp_region_lit ?_
          refine sq hA (q_move rfl) rfl fun a hA => ?_
          refine sq hA (Runs.bt (q_eqlI (n := 0) rfl rfl) (by rfl)) rfl fun a hA => ?_
          refine sq hA (q_move rfl) rfl fun a hA => ?_
          refine gq hA rfl rfl (q_move rfl) rfl fun a hA => ?_
          refine gq hA rfl rfl (Runs.bt (q_eqlI (n := 0) rfl rfl) (by rfl)) rfl fun a hA => ?_
          refine sq hA (q_pick_t rfl rfl) rfl fun a hA => ?_
          refine sq hA (q_move rfl) rfl fun a hA => ?_
          refine gq hA rfl rfl (q_move rfl) rfl fun a hA => ?_
          refine gq hA rfl rfl (Runs.bt (q_eqlI (n := 0) rfl rfl) (by rfl)) rfl fun a hA => ?_
          refine sq hA (q_pick_t rfl rfl) rfl fun a hA => ?_
          refine sq hA (q_move rfl) rfl fun a hA => ?_
          refine gq hA rfl rfl (q_loadW hH 4 rfl Tryd.underlying24 rfl ti24 rfl (by first | rfl | (simp; done) | (rw [List.length_map]; exact hva) | exact hva)) rfl fun a hA => ?_
          refine gq hA rfl rfl (q_loadW hH 0 rfl Tryd.underlying24 rfl ti24 rfl (by first | rfl | (simp; done) | (rw [List.length_map]; exact hvh) | exact hvh)) rfl fun a hA => ?_
          refine gq hA rfl rfl (Runs.bt (q_eqlA8 (p := clm p i ds ds.length) (q := clm (clm p (i % qk) (ds.take k) k) (i / qk) (ds.drop k) (ds.length - k)) eqa24 rfl rfl rfl rfl (by first | exact hva | exact hvh) (by first | exact hva | exact hvh)) (by rw [hqk]; exact (clm_parts p i ds hk).symm)) rfl fun a hA => ?_
          refine sq hA (q_pick_t rfl rfl) rfl fun a hA => ?_
          refine sq hA (q_move rfl) rfl fun a hA => ?_
          refine gl hA rfl rfl (lo_call fn15 rfl (awake6_any (hg.mono0 hH))) rfl ?_
          rintro _ w ⟨rfl, hC⟩ a hA
          replace hH := HS.call0 hH hC
          clear hC
          refine sq hA (q_pick_t rfl rfl) rfl fun a hA => ?_
          refine sq hA (q_assign rfl) rfl fun a hA => ?_
          refine wpList_nil ?_
          refine hK17 _ _ ?_
          clear hK17
          replace hA := hA.sub (E' := [(8, _)]) ⟨rfl, trivial⟩
          refine wp_ret ?_
          refine post_ret hA (res_1 rfl hA rfl) ?_
          replace hH := hH.pick [] (Hs' := []) rfl
          exact ⟨_, rfl, rfl, hH⟩
    · skip
      refine oneL hA 8 rfl (lo_allocA hH ti24) rfl (listed' := #[true, true, true, true, false, false, false, false, true, false, false]) rfl ?_
      clear hH; rintro _ w ⟨b_t9, rfl, hH⟩
      have hS' := hH.pick [2] (Hs' := [_]) rfl
      replace hS := hS'; clear hS'
      refine ⟨fun _ _ => hS, ?_⟩
      intro a hA
      refine al hA 4 rfl (by kernel_rfl) (lo_call fn25 rfl (climb_any (hg.mono0 hH) p i _ ds hp hd (Own.rd0 hO_t44 hH 1 rfl) hl2 hi)) rfl (listed' := #[true, true, true, true, true, false, false, false, true, false, false]) rfl ?_
      rintro _ w ⟨rfl, hC⟩
      replace hH := HS.call0 hH hC
      clear hC
      refine ⟨fun _ h => absurd h (by decide), ?_⟩
      intro a hA
      refine apq hA 5 rfl (by kernel_rfl) (by intro c a d v w h; cases d <;> exact h) (fun w => (q_move rfl)) rfl (listed' := #[true, true, true, true, true, true, false, false, true, false, false]) rfl fun a hA => ?_
      refine apq hA 6 rfl (by kernel_rfl) (by intro c a d v w h; cases d <;> exact h) (fun w => (q_extract rfl rfl)) rfl (listed' := #[true, true, true, true, true, true, true, false, true, false, false]) rfl fun a hA => ?_
      refine apq hA 7 rfl (by kernel_rfl) (by intro c a d v w h; cases d <;> exact h) (fun w => (q_extract rfl rfl)) rfl (listed' := #[true, true, true, true, true, true, true, true, true, false, false]) rfl fun a hA => ?_
      refine al0 hA 9 rfl (by kernel_rfl) (lo_storeAm hH ti24 rfl rfl (by first | rfl | (simp; done) | (rw [List.length_map]; exact hva) | exact hva) (by first | rfl | (simp; done) | (rw [List.length_map]; exact hva) | exact hva) (one_B8 _)) (listed' := #[true, true, true, true, true, true, true, true, true, true, false]) rfl ?_
      clear hH; rintro _ w hH
      refine ⟨fun _ h => absurd h (by decide), ?_⟩
      refine apq hA 10 rfl (by kernel_rfl) (by intro c a d v w h; cases d <;> exact h) (fun w => (q_assign rfl)) rfl (listed' := #[true, true, true, true, true, true, true, true, true, true, true]) rfl fun a hA => ?_
      refine a_end (by kernel_rfl) ?_ _
      refine hK4 _ _ ?_
      clear hK4
      replace hA := hA.sub (E' := [(10, _), (9, _), (8, _), (4, _), (1, _), (2, _), (3, _)]) ⟨rfl, rfl, rfl, rfl, rfl, rfl, rfl, trivial⟩
      refine wp_seq_k fun K18 hK18 => ?_
      refine any_go mixed (fun j => !(Nat.beq j 9 || Nat.beq j 14)) hH ?_
      clear hH; intro w hH
      have hS := hH
      change wpK _ _ _ _ _ _ 16 #[false, false, false, false, false, false, false, false, false, false, false, false, false, false, false, false] _ _
      refine aq hA 0 rfl (by kernel_rfl) (by intro c a d v w h; cases d <;> exact h) hS (fun w hH => (q_loadW hH 2 rfl Tryd.underlying24 rfl ti24 rfl (by first | omega | (simp; done) | (simp; omega) | (simp [*]; done) | (simp [*]; omega)))) rfl (listed' := #[true, false, false, false, false, false, false, false, false, false, false, false, false, false, false, false]) rfl fun a hA => ?_
      refine apq hA 1 rfl (by kernel_rfl) (by intro c a d v w h; cases d <;> exact h) (fun w => (q_move rfl)) rfl (listed' := #[true, true, false, false, false, false, false, false, false, false, false, false, false, false, false, false]) rfl fun a hA => ?_
      refine apq hA 2 rfl (by kernel_rfl) (by intro c a d v w h; cases d <;> exact h) (fun w => (q_move rfl)) rfl (listed' := #[true, true, true, false, false, false, false, false, false, false, false, false, false, false, false, false]) rfl fun a hA => ?_
      refine apq hA 3 rfl (by kernel_rfl) (by intro c a d v w h; cases d <;> exact h) (fun w => (q_shlI (n := k) (2 ^ k) rfl rfl (by omega) rfl (by omega))) rfl (listed' := #[true, true, true, true, false, false, false, false, false, false, false, false, false, false, false, false]) rfl fun a hA => ?_
      rw [hck] at hA
      refine apq hA 4 rfl (by kernel_rfl) (by intro c a d v w h; cases d <;> exact h) (fun w => (q_remI rfl rfl (by omega))) rfl (listed' := #[true, true, true, true, true, false, false, false, false, false, false, false, false, false, false, false]) rfl fun a hA => ?_
      rw [show ((i : Nat) : Int) % ((qk : Nat) : Int) = ((i % qk : Nat) : Int) from (Int.natCast_emod i qk).symm] at hA
      refine apq hA 5 rfl (by kernel_rfl) (by intro c a d v w h; cases d <;> exact h) (fun w => (q_move rfl)) rfl (listed' := #[true, true, true, true, true, true, false, false, false, false, false, false, false, false, false, false]) rfl fun a hA => ?_
      refine apq hA 6 rfl (by kernel_rfl) (by intro c a d v w h; cases d <;> exact h) (fun w => (q_move rfl)) rfl (listed' := #[true, true, true, true, true, true, true, false, false, false, false, false, false, false, false, false]) rfl fun a hA => ?_
      obtain ⟨v_t56, hv_t56, hO_t56⟩ := Rd.cut hr (0) (k) (by first | omega | (simp; omega) | (simp [*]; omega)) (by first | omega | (simp; omega) | (simp [*]; omega))
      replace hO_t56 : RdD [] w0 v_t56 (ds.take k) := RdD.takeOf hd hk hO_t56
      refine apq hA 7 rfl (by kernel_rfl) (by intro c a d v w h; cases d <;> exact h) (fun w => (q_slice Tryd.underlying22 ti24 rfl (0) (k) hv_t56 (Rd.shp hr) rfl rfl (rfl) (rfl) (by first | omega | (simp; omega) | (simp [*]; omega)) (by first | omega | (simp; omega) | (simp [*]; omega)))) rfl (listed' := #[true, true, true, true, true, true, true, true, false, false, false, false, false, false, false, false]) rfl fun a hA => ?_
      refine a_ch2 (i := 8) (j := 13) (by kernel_rfl) ?_ ?_
      · skip
        refine oneL hA 8 rfl (lo_call fn17 rfl (own6_any _ (ds.take k) (hd.take k) (hH.rd hO_t56) (by omega))) rfl (listed' := #[true, true, true, true, true, true, true, true, true, false, false, false, false, false, false, false]) rfl ?_
        rintro _ w ⟨v_t57, N_t57, rfl, hO_t57, hC⟩
        replace hH := HS.call0 hH hC
        clear hC
        have hS' := hH.pick [1, 2, 3] (Hs' := [_, _, _]) rfl
        replace hS := hS'; clear hS'
        refine ⟨fun _ _ => hS, ?_⟩
        intro a hA
        refine a_ch2 (i := 9) (j := 13) (by kernel_rfl) ?_ ?_
        · skip
          refine oneL hA 9 rfl (lo_call fn25 rfl (climb_at (climb_any (hg.mono0 hH) p (i % qk) _ (ds.take k) hp (hd.take k) (Own.rd0 hO_t57 hH 0 rfl) (by omega) (by rw [hkl, ← hqk]; exact Nat.mod_lt _ hqp)) hkl)) rfl (listed' := #[true, true, true, true, true, true, true, true, true, true, false, false, false, false, false, false]) rfl ?_
          rintro _ w ⟨rfl, hC⟩
          replace hH := HS.call0 hH hC
          clear hC
          refine ⟨fun _ h => absurd h (by decide), ?_⟩
          intro a hA
          refine apq hA 10 rfl (by kernel_rfl) (by intro c a d v w h; cases d <;> exact h) (fun w => (q_move rfl)) rfl (listed' := #[true, true, true, true, true, true, true, true, true, true, true, false, false, false, false, false]) rfl fun a hA => ?_
          refine apq hA 11 rfl (by kernel_rfl) (by intro c a d v w h; cases d <;> exact h) (fun w => (q_extract rfl rfl)) rfl (listed' := #[true, true, true, true, true, true, true, true, true, true, true, true, false, false, false, false]) rfl fun a hA => ?_
          refine apq hA 12 rfl (by kernel_rfl) (by intro c a d v w h; cases d <;> exact h) (fun w => (q_extract rfl rfl)) rfl (listed' := #[true, true, true, true, true, true, true, true, true, true, true, true, true, false, false, false]) rfl fun a hA => ?_
          refine al hA 13 rfl (by kernel_rfl) (lo_allocA hH ti24) rfl (listed' := #[true, true, true, true, true, true, true, true, true, true, true, true, true, true, false, false]) rfl ?_
          clear hH; rintro _ w ⟨b_t11, rfl, hH⟩
          have hS' := hH.pick [2, 3, 4] (Hs' := [_, _, _]) rfl
          replace hS := hS'; clear hS'
          refine ⟨fun _ _ => hS, ?_⟩
          intro a hA
          refine al0 hA 14 rfl (by kernel_rfl) (lo_storeAm hH ti24 rfl rfl (by first | rfl | (simp; done) | (rw [List.length_map]; exact hvl) | exact hvl) (by first | rfl | (simp; done) | (rw [List.length_map]; exact hvl) | exact hvl) (one_B8 _)) (listed' := #[true, true, true, true, true, true, true, true, true, true, true, true, true, true, true, false]) rfl ?_
          clear hH; rintro _ w hH
          refine ⟨fun _ h => absurd h (by decide), ?_⟩
          refine apq hA 15 rfl (by kernel_rfl) (by intro c a d v w h; cases d <;> exact h) (fun w => (q_assign rfl)) rfl (listed' := #[true, true, true, true, true, true, true, true, true, true, true, true, true, true, true, true]) rfl fun a hA => ?_
          refine a_end (by kernel_rfl) ?_ _
          refine hK18 _ _ ?_
          clear hK18
          replace hA := hA.sub (E' := [(12, _), (11, _), (10, _), (9, _), (8, _), (1, _), (2, _), (3, _)]) ⟨rfl, rfl, rfl, rfl, rfl, rfl, rfl, rfl, trivial⟩
          refine wp_seq_k fun K19 hK19 => ?_
          refine any_go mixed (fun j => !(Nat.beq j 9 || Nat.beq j 14)) hH ?_
          clear hH; intro w hH
          have hS := hH
          change wpK _ _ _ _ _ _ 16 #[false, false, false, false, false, false, false, false, false, false, false, false, false, false, false, false] _ _
          refine aq hA 0 rfl (by kernel_rfl) (by intro c a d v w h; cases d <;> exact h) hS (fun w hH => (q_loadW hH 0 rfl Tryd.underlying24 rfl ti24 rfl (by first | rfl | (simp; done) | (rw [List.length_map]; exact hvl) | exact hvl))) rfl (listed' := #[true, false, false, false, false, false, false, false, false, false, false, false, false, false, false, false]) rfl fun a hA => ?_
          refine apq hA 1 rfl (by kernel_rfl) (by intro c a d v w h; cases d <;> exact h) (fun w => (q_move rfl)) rfl (listed' := #[true, true, false, false, false, false, false, false, false, false, false, false, false, false, false, false]) rfl fun a hA => ?_
          refine apq hA 2 rfl (by kernel_rfl) (by intro c a d v w h; cases d <;> exact h) (fun w => (q_move rfl)) rfl (listed' := #[true, true, true, false, false, false, false, false, false, false, false, false, false, false, false, false]) rfl fun a hA => ?_
          refine apq hA 3 rfl (by kernel_rfl) (by intro c a d v w h; cases d <;> exact h) (fun w => (q_shlI (n := k) (2 ^ k) rfl rfl (by omega) rfl (by omega))) rfl (listed' := #[true, true, true, true, false, false, false, false, false, false, false, false, false, false, false, false]) rfl fun a hA => ?_
          rw [hck] at hA
          refine apq hA 4 rfl (by kernel_rfl) (by intro c a d v w h; cases d <;> exact h) (fun w => (q_quoI rfl rfl (by omega))) rfl (listed' := #[true, true, true, true, true, false, false, false, false, false, false, false, false, false, false, false]) rfl fun a hA => ?_
          rw [show ((i : Nat) : Int) / ((qk : Nat) : Int) = ((i / qk : Nat) : Int) from (Int.natCast_ediv i qk).symm] at hA
          refine apq hA 5 rfl (by kernel_rfl) (by intro c a d v w h; cases d <;> exact h) (fun w => (q_move rfl)) rfl (listed' := #[true, true, true, true, true, true, false, false, false, false, false, false, false, false, false, false]) rfl fun a hA => ?_
          refine apq hA 6 rfl (by kernel_rfl) (by intro c a d v w h; cases d <;> exact h) (fun w => (q_move rfl)) rfl (listed' := #[true, true, true, true, true, true, true, false, false, false, false, false, false, false, false, false]) rfl fun a hA => ?_
          obtain ⟨v_t69, hv_t69, hO_t69⟩ := Rd.cut hr (k) (ds.length) (by first | omega | (simp; omega) | (simp [*]; omega)) (by first | omega | (simp; omega) | (simp [*]; omega))
          replace hO_t69 : RdD [] w0 v_t69 (ds.drop k) := RdD.dropOf hd hk hO_t69
          refine apq hA 7 rfl (by kernel_rfl) (by intro c a d v w h; cases d <;> exact h) (fun w => (q_slice Tryd.underlying22 ti24 rfl (k) (ds.length) hv_t69 (Rd.shp hr) rfl rfl (rfl) (by first | rfl | (simp; done) | omega) (by first | omega | (simp; omega) | (simp [*]; omega)) (by first | omega | (simp; omega) | (simp [*]; omega)))) rfl (listed' := #[true, true, true, true, true, true, true, true, false, false, false, false, false, false, false, false]) rfl fun a hA => ?_
          refine a_ch2 (i := 8) (j := 13) (by kernel_rfl) ?_ ?_
          · skip
            refine oneL hA 8 rfl (lo_call fn17 rfl (own6_any _ (ds.drop k) (hd.drop k) (hH.rd hO_t69) (by omega))) rfl (listed' := #[true, true, true, true, true, true, true, true, true, false, false, false, false, false, false, false]) rfl ?_
            rintro _ w ⟨v_t70, N_t70, rfl, hO_t70, hC⟩
            replace hH := HS.call0 hH hC
            clear hC
            have hS' := hH.pick [1, 2, 3, 4, 5] (Hs' := [_, _, _, _, _]) rfl
            replace hS := hS'; clear hS'
            refine ⟨fun _ _ => hS, ?_⟩
            intro a hA
            refine a_ch2 (i := 9) (j := 13) (by kernel_rfl) ?_ ?_
            · skip
              refine oneL hA 9 rfl (lo_call fn25 rfl (climb_at (climb_any (hg.mono0 hH) (clm p (i % qk) (ds.take k) k) (i / qk) _ (ds.drop k) hvl (hd.drop k) (Own.rd0 hO_t70 hH 0 rfl) (by omega) (by rw [hkd]; exact clm_quo hk hqk hqn hin)) hkd)) rfl (listed' := #[true, true, true, true, true, true, true, true, true, true, false, false, false, false, false, false]) rfl ?_
              rintro _ w ⟨rfl, hC⟩
              replace hH := HS.call0 hH hC
              clear hC
              refine ⟨fun _ h => absurd h (by decide), ?_⟩
              intro a hA
              refine apq hA 10 rfl (by kernel_rfl) (by intro c a d v w h; cases d <;> exact h) (fun w => (q_move rfl)) rfl (listed' := #[true, true, true, true, true, true, true, true, true, true, true, false, false, false, false, false]) rfl fun a hA => ?_
              refine apq hA 11 rfl (by kernel_rfl) (by intro c a d v w h; cases d <;> exact h) (fun w => (q_extract rfl rfl)) rfl (listed' := #[true, true, true, true, true, true, true, true, true, true, true, true, false, false, false, false]) rfl fun a hA => ?_
              refine apq hA 12 rfl (by kernel_rfl) (by intro c a d v w h; cases d <;> exact h) (fun w => (q_extract rfl rfl)) rfl (listed' := #[true, true, true, true, true, true, true, true, true, true, true, true, true, false, false, false]) rfl fun a hA => ?_
              refine al hA 13 rfl (by kernel_rfl) (lo_allocA hH ti24) rfl (listed' := #[true, true, true, true, true, true, true, true, true, true, true, true, true, true, false, false]) rfl ?_
              clear hH; rintro _ w ⟨b_t13, rfl, hH⟩
              have hS' := hH.pick [2, 3, 4, 5, 6] (Hs' := [_, _, _, _, _]) rfl
              replace hS := hS'; clear hS'
              refine ⟨fun _ _ => hS, ?_⟩
              intro a hA
              refine al0 hA 14 rfl (by kernel_rfl) (lo_storeAm hH ti24 rfl rfl (by first | rfl | (simp; done) | (rw [List.length_map]; exact hvh) | exact hvh) (by first | rfl | (simp; done) | (rw [List.length_map]; exact hvh) | exact hvh) (one_B8 _)) (listed' := #[true, true, true, true, true, true, true, true, true, true, true, true, true, true, true, false]) rfl ?_
              clear hH; rintro _ w hH
              refine ⟨fun _ h => absurd h (by decide), ?_⟩
              refine apq hA 15 rfl (by kernel_rfl) (by intro c a d v w h; cases d <;> exact h) (fun w => (q_assign rfl)) rfl (listed' := #[true, true, true, true, true, true, true, true, true, true, true, true, true, true, true, true]) rfl fun a hA => ?_
              refine a_end (by kernel_rfl) ?_ _
              refine hK19 _ _ ?_
              clear hK19
              replace hA := hA.sub (E' := [(14, _), (13, _), (12, _), (10, _), (9, _), (8, _)]) ⟨rfl, rfl, rfl, rfl, rfl, rfl, trivial⟩
              refine wp_seq_k fun K20 hK20 => ?_
              refine wp_region_lit ?_
              refine sq hA (q_move rfl) rfl fun a hA => ?_
              refine sq hA (Runs.bt (q_eqlI (n := 0) rfl rfl) (by rfl)) rfl fun a hA => ?_
              refine sq hA (q_move rfl) rfl fun a hA => ?_
              refine gq hA rfl rfl (q_move rfl) rfl fun a hA => ?_
              refine gq hA rfl rfl (Runs.bt (q_eqlI (n := 0) rfl rfl) (by rfl)) rfl fun a hA => ?_
              refine sq hA (q_pick_t rfl rfl) rfl fun a hA => ?_
              refine sq hA (q_move rfl) rfl fun a hA => ?_
              refine gq hA rfl rfl (q_move rfl) rfl fun a hA => ?_
              refine gq hA rfl rfl (Runs.bt (q_eqlI (n := 0) rfl rfl) (by rfl)) rfl fun a hA => ?_
              refine sq hA (q_pick_t rfl rfl) rfl fun a hA => ?_
              refine sq hA (q_move rfl) rfl fun a hA => ?_
              refine gq hA rfl rfl (q_loadW hH 4 rfl Tryd.underlying24 rfl ti24 rfl (by first | rfl | (simp; done) | (rw [List.length_map]; exact hva) | exact hva)) rfl fun a hA => ?_
              refine gq hA rfl rfl (q_loadW hH 0 rfl Tryd.underlying24 rfl ti24 rfl (by first | rfl | (simp; done) | (rw [List.length_map]; exact hvh) | exact hvh)) rfl fun a hA => ?_
              refine gq hA rfl rfl (Runs.bt (q_eqlA8 (p := clm p i ds ds.length) (q := clm (clm p (i % qk) (ds.take k) k) (i / qk) (ds.drop k) (ds.length - k)) eqa24 rfl rfl rfl rfl (by first | exact hva | exact hvh) (by first | exact hva | exact hvh)) (by rw [hqk]; exact (clm_parts p i ds hk).symm)) rfl fun a hA => ?_
              refine sq hA (q_pick_t rfl rfl) rfl fun a hA => ?_
              refine sq hA (q_move rfl) rfl fun a hA => ?_
              refine gl hA rfl rfl (lo_call fn15 rfl (awake6_any (hg.mono0 hH))) rfl ?_
              rintro _ w ⟨rfl, hC⟩ a hA
              replace hH := HS.call0 hH hC
              clear hC
              refine sq hA (q_pick_t rfl rfl) rfl fun a hA => ?_
              refine sq hA (q_assign rfl) rfl fun a hA => ?_
              refine wpList_nil ?_
              refine hK20 _ _ ?_
              clear hK20
              replace hA := hA.sub (E' := [(8, _)]) ⟨rfl, trivial⟩
              refine wp_ret ?_
              refine post_ret hA (res_1 rfl hA rfl) ?_
              replace hH := hH.pick [] (Hs' := []) rfl
              exact ⟨_, rfl, rfl, hH⟩
            · skip
              refine oneL hA 13 rfl (lo_allocA hH ti24) rfl (listed' := #[true, true, true, true, true, true, true, true, true, false, false, false, false, true, false, false]) rfl ?_
              clear hH; rintro _ w ⟨b_t13, rfl, hH⟩
              have hS' := hH.pick [2, 3, 4, 5, 6] (Hs' := [_, _, _, _, _]) rfl
              replace hS := hS'; clear hS'
              refine ⟨fun _ _ => hS, ?_⟩
              intro a hA
              refine al hA 9 rfl (by kernel_rfl) (lo_call fn25 rfl (climb_at (climb_any (hg.mono0 hH) (clm p (i % qk) (ds.take k) k) (i / qk) _ (ds.drop k) hvl (hd.drop k) (Own.rd0 hO_t70 hH 1 rfl) (by omega) (by rw [hkd]; exact clm_quo hk hqk hqn hin)) hkd)) rfl (listed' := #[true, true, true, true, true, true, true, true, true, true, false, false, false, true, false, false]) rfl ?_
              rintro _ w ⟨rfl, hC⟩
              replace hH := HS.call0 hH hC
              clear hC
              refine ⟨fun _ h => absurd h (by decide), ?_⟩
              intro a hA
              refine apq hA 10 rfl (by kernel_rfl) (by intro c a d v w h; cases d <;> exact h) (fun w => (q_move rfl)) rfl (listed' := #[true, true, true, true, true, true, true, true, true, true, true, false, false, true, false, false]) rfl fun a hA => ?_
              refine apq hA 11 rfl (by kernel_rfl) (by intro c a d v w h; cases d <;> exact h) (fun w => (q_extract rfl rfl)) rfl (listed' := #[true, true, true, true, true, true, true, true, true, true, true, true, false, true, false, false]) rfl fun a hA => ?_
              refine apq hA 12 rfl (by kernel_rfl) (by intro c a d v w h; cases d <;> exact h) (fun w => (q_extract rfl rfl)) rfl (listed' := #[true, true, true, true, true, true, true, true, true, true, true, true, true, true, false, false]) rfl fun a hA => ?_
              refine al0 hA 14 rfl (by kernel_rfl) (lo_storeAm hH ti24 rfl rfl (by first | rfl | (simp; done) | (rw [List.length_map]; exact hvh) | exact hvh) (by first | rfl | (simp; done) | (rw [List.length_map]; exact hvh) | exact hvh) (one_B8 _)) (listed' := #[true, true, true, true, true, true, true, true, true, true, true, true, true, true, true, false]) rfl ?_
              clear hH; rintro _ w hH
              refine ⟨fun _ h => absurd h (by decide), ?_⟩
              refine apq hA 15 rfl (by kernel_rfl) (by intro c a d v w h; cases d <;> exact h) (fun w => (q_assign rfl)) rfl (listed' := #[true, true, true, true, true, true, true, true, true, true, true, true, true, true, true, true]) rfl fun a hA => ?_
              refine a_end (by kernel_rfl) ?_ _
              refine hK19 _ _ ?_
              clear hK19
              replace hA := hA.sub (E' := [(14, _), (13, _), (12, _), (10, _), (9, _), (8, _)]) ⟨rfl, rfl, rfl, rfl, rfl, rfl, trivial⟩
              refine wp_seq_k fun K21 hK21 => ?_
              refine wp_region_lit ?_
              refine sq hA (q_move rfl) rfl fun a hA => ?_
              refine sq hA (Runs.bt (q_eqlI (n := 0) rfl rfl) (by rfl)) rfl fun a hA => ?_
              refine sq hA (q_move rfl) rfl fun a hA => ?_
              refine gq hA rfl rfl (q_move rfl) rfl fun a hA => ?_
              refine gq hA rfl rfl (Runs.bt (q_eqlI (n := 0) rfl rfl) (by rfl)) rfl fun a hA => ?_
              refine sq hA (q_pick_t rfl rfl) rfl fun a hA => ?_
              refine sq hA (q_move rfl) rfl fun a hA => ?_
              refine gq hA rfl rfl (q_move rfl) rfl fun a hA => ?_
              refine gq hA rfl rfl (Runs.bt (q_eqlI (n := 0) rfl rfl) (by rfl)) rfl fun a hA => ?_
              refine sq hA (q_pick_t rfl rfl) rfl fun a hA => ?_
              refine sq hA (q_move rfl) rfl fun a hA => ?_
              refine gq hA rfl rfl (q_loadW hH 4 rfl Tryd.underlying24 rfl ti24 rfl (by first | rfl | (simp; done) | (rw [List.length_map]; exact hva) | exact hva)) rfl fun a hA => ?_
              refine gq hA rfl rfl (q_loadW hH 0 rfl Tryd.underlying24 rfl ti24 rfl (by first | rfl | (simp; done) | (rw [List.length_map]; exact hvh) | exact hvh)) rfl fun a hA => ?_
              refine gq hA rfl rfl (Runs.bt (q_eqlA8 (p := clm p i ds ds.length) (q := clm (clm p (i % qk) (ds.take k) k) (i / qk) (ds.drop k) (ds.length - k)) eqa24 rfl rfl rfl rfl (by first | exact hva | exact hvh) (by first | exact hva | exact hvh)) (by rw [hqk]; exact (clm_parts p i ds hk).symm)) rfl fun a hA => ?_
              refine sq hA (q_pick_t rfl rfl) rfl fun a hA => ?_
              refine sq hA (q_move rfl) rfl fun a hA => ?_
              refine gl hA rfl rfl (lo_call fn15 rfl (awake6_any (hg.mono0 hH))) rfl ?_
              rintro _ w ⟨rfl, hC⟩ a hA
              replace hH := HS.call0 hH hC
              clear hC
              refine sq hA (q_pick_t rfl rfl) rfl fun a hA => ?_
              refine sq hA (q_assign rfl) rfl fun a hA => ?_
              refine wpList_nil ?_
              refine hK21 _ _ ?_
              clear hK21
              replace hA := hA.sub (E' := [(8, _)]) ⟨rfl, trivial⟩
              refine wp_ret ?_
              refine post_ret hA (res_1 rfl hA rfl) ?_
              replace hH := hH.pick [] (Hs' := []) rfl
              exact ⟨_, rfl, rfl, hH⟩
          · skip
            refine oneL hA 13 rfl (lo_allocA hH ti24) rfl (listed' := #[true, true, true, true, true, true, true, true, false, false, false, false, false, true, false, false]) rfl ?_
            clear hH; rintro _ w ⟨b_t13, rfl, hH⟩
            have hS' := hH.pick [1, 2, 3, 4, 5] (Hs' := [_, _, _, _, _]) rfl
            replace hS := hS'; clear hS'
            refine ⟨fun _ _ => hS, ?_⟩
            intro a hA
            refine al hA 8 rfl (by kernel_rfl) (lo_call fn17 rfl (own6_any _ (ds.drop k) (hd.drop k) (hH.rd hO_t69) (by omega))) rfl (listed' := #[true, true, true, true, true, true, true, true, true, false, false, false, false, true, false, false]) rfl ?_
            rintro _ w ⟨v_t70, N_t70, rfl, hO_t70, hC⟩
            replace hH := HS.call0 hH hC
            clear hC
            have hS' := hH.pick [2, 3, 4, 5, 6] (Hs' := [_, _, _, _, _]) rfl
            replace hS := hS'; clear hS'
            refine ⟨fun _ _ => hS, ?_⟩
            intro a hA
            refine al hA 9 rfl (by kernel_rfl) (lo_call fn25 rfl (climb_at (climb_any (hg.mono0 hH) (clm p (i % qk) (ds.take k) k) (i / qk) _ (ds.drop k) hvl (hd.drop k) (Own.rd0 hO_t70 hH 0 rfl) (by omega) (by rw [hkd]; exact clm_quo hk hqk hqn hin)) hkd)) rfl (listed' := #[true, true, true, true, true, true, true, true, true, true, false, false, false, true, false, false]) rfl ?_
            rintro _ w ⟨rfl, hC⟩
            replace hH := HS.call0 hH hC
            clear hC
            refine ⟨fun _ h => absurd h (by decide), ?_⟩
            intro a hA
            refine apq hA 10 rfl (by kernel_rfl) (by intro c a d v w h; cases d <;> exact h) (fun w => (q_move rfl)) rfl (listed' := #[true, true, true, true, true, true, true, true, true, true, true, false, false, true, false, false]) rfl fun a hA => ?_
            refine apq hA 11 rfl (by kernel_rfl) (by intro c a d v w h; cases d <;> exact h) (fun w => (q_extract rfl rfl)) rfl (listed' := #[true, true, true, true, true, true, true, true, true, true, true, true, false, true, false, false]) rfl fun a hA => ?_
            refine apq hA 12 rfl (by kernel_rfl) (by intro c a d v w h; cases d <;> exact h) (fun w => (q_extract rfl rfl)) rfl (listed' := #[true, true, true, true, true, true, true, true, true, true, true, true, true, true, false, false]) rfl fun a hA => ?_
            replace hH := hH.pick [1, 0, 2, 3, 4, 5, 6] (Hs' := [_, _, _, _, _, _, _]) rfl
            refine al0 hA 14 rfl (by kernel_rfl) (lo_storeAm hH ti24 rfl rfl (by first | rfl | (simp; done) | (rw [List.length_map]; exact hvh) | exact hvh) (by first | rfl | (simp; done) | (rw [List.length_map]; exact hvh) | exact hvh) (one_B8 _)) (listed' := #[true, true, true, true, true, true, true, true, true, true, true, true, true, true, true, false]) rfl ?_
            clear hH; rintro _ w hH
            refine ⟨fun _ h => absurd h (by decide), ?_⟩
            refine apq hA 15 rfl (by kernel_rfl) (by intro c a d v w h; cases d <;> exact h) (fun w => (q_assign rfl)) rfl (listed' := #[true, true, true, true, true, true, true, true, true, true, true, true, true, true, true, true]) rfl fun a hA => ?_
            refine a_end (by kernel_rfl) ?_ _
            refine hK19 _ _ ?_
            clear hK19
            replace hA := hA.sub (E' := [(14, _), (13, _), (12, _), (10, _), (9, _), (8, _)]) ⟨rfl, rfl, rfl, rfl, rfl, rfl, trivial⟩
            refine wp_seq_k fun K22 hK22 => ?_
            refine wp_region_lit ?_
            refine sq hA (q_move rfl) rfl fun a hA => ?_
            refine sq hA (Runs.bt (q_eqlI (n := 0) rfl rfl) (by rfl)) rfl fun a hA => ?_
            refine sq hA (q_move rfl) rfl fun a hA => ?_
            refine gq hA rfl rfl (q_move rfl) rfl fun a hA => ?_
            refine gq hA rfl rfl (Runs.bt (q_eqlI (n := 0) rfl rfl) (by rfl)) rfl fun a hA => ?_
            refine sq hA (q_pick_t rfl rfl) rfl fun a hA => ?_
            refine sq hA (q_move rfl) rfl fun a hA => ?_
            refine gq hA rfl rfl (q_move rfl) rfl fun a hA => ?_
            refine gq hA rfl rfl (Runs.bt (q_eqlI (n := 0) rfl rfl) (by rfl)) rfl fun a hA => ?_
            refine sq hA (q_pick_t rfl rfl) rfl fun a hA => ?_
            refine sq hA (q_move rfl) rfl fun a hA => ?_
            refine gq hA rfl rfl (q_loadW hH 4 rfl Tryd.underlying24 rfl ti24 rfl (by first | rfl | (simp; done) | (rw [List.length_map]; exact hva) | exact hva)) rfl fun a hA => ?_
            refine gq hA rfl rfl (q_loadW hH 0 rfl Tryd.underlying24 rfl ti24 rfl (by first | rfl | (simp; done) | (rw [List.length_map]; exact hvh) | exact hvh)) rfl fun a hA => ?_
            refine gq hA rfl rfl (Runs.bt (q_eqlA8 (p := clm p i ds ds.length) (q := clm (clm p (i % qk) (ds.take k) k) (i / qk) (ds.drop k) (ds.length - k)) eqa24 rfl rfl rfl rfl (by first | exact hva | exact hvh) (by first | exact hva | exact hvh)) (by rw [hqk]; exact (clm_parts p i ds hk).symm)) rfl fun a hA => ?_
            refine sq hA (q_pick_t rfl rfl) rfl fun a hA => ?_
            refine sq hA (q_move rfl) rfl fun a hA => ?_
            refine gl hA rfl rfl (lo_call fn15 rfl (awake6_any (hg.mono0 hH))) rfl ?_
            rintro _ w ⟨rfl, hC⟩ a hA
            replace hH := HS.call0 hH hC
            clear hC
            refine sq hA (q_pick_t rfl rfl) rfl fun a hA => ?_
            refine sq hA (q_assign rfl) rfl fun a hA => ?_
            refine wpList_nil ?_
            refine hK22 _ _ ?_
            clear hK22
            replace hA := hA.sub (E' := [(8, _)]) ⟨rfl, trivial⟩
            refine wp_ret ?_
            refine post_ret hA (res_1 rfl hA rfl) ?_
            replace hH := hH.pick [] (Hs' := []) rfl
            exact ⟨_, rfl, rfl, hH⟩
        · skip
          refine oneL hA 13 rfl (lo_allocA hH ti24) rfl (listed' := #[true, true, true, true, true, true, true, true, true, false, false, false, false, true, false, false]) rfl ?_
          clear hH; rintro _ w ⟨b_t11, rfl, hH⟩
          have hS' := hH.pick [2, 3, 4] (Hs' := [_, _, _]) rfl
          replace hS := hS'; clear hS'
          refine ⟨fun _ _ => hS, ?_⟩
          intro a hA
          refine al hA 9 rfl (by kernel_rfl) (lo_call fn25 rfl (climb_at (climb_any (hg.mono0 hH) p (i % qk) _ (ds.take k) hp (hd.take k) (Own.rd0 hO_t57 hH 1 rfl) (by omega) (by rw [hkl, ← hqk]; exact Nat.mod_lt _ hqp)) hkl)) rfl (listed' := #[true, true, true, true, true, true, true, true, true, true, false, false, false, true, false, false]) rfl ?_
          rintro _ w ⟨rfl, hC⟩
          replace hH := HS.call0 hH hC
          clear hC
          refine ⟨fun _ h => absurd h (by decide), ?_⟩
          intro a hA
          refine apq hA 10 rfl (by kernel_rfl) (by intro c a d v w h; cases d <;> exact h) (fun w => (q_move rfl)) rfl (listed' := #[true, true, true, true, true, true, true, true, true, true, true, false, false, true, false, false]) rfl fun a hA => ?_
          refine apq hA 11 rfl (by kernel_rfl) (by intro c a d v w h; cases d <;> exact h) (fun w => (q_extract rfl rfl)) rfl (listed' := #[true, true, true, true, true, true, true, true, true, true, true, true, false, true, false, false]) rfl fun a hA => ?_
          refine apq hA 12 rfl (by kernel_rfl) (by intro c a d v w h; cases d <;> exact h) (fun w => (q_extract rfl rfl)) rfl (listed' := #[true, true, true, true, true, true, true, true, true, true, true, true, true, true, false, false]) rfl fun a hA => ?_
          refine al0 hA 14 rfl (by kernel_rfl) (lo_storeAm hH ti24 rfl rfl (by first | rfl | (simp; done) | (rw [List.length_map]; exact hvl) | exact hvl) (by first | rfl | (simp; done) | (rw [List.length_map]; exact hvl) | exact hvl) (one_B8 _)) (listed' := #[true, true, true, true, true, true, true, true, true, true, true, true, true, true, true, false]) rfl ?_
          clear hH; rintro _ w hH
          refine ⟨fun _ h => absurd h (by decide), ?_⟩
          refine apq hA 15 rfl (by kernel_rfl) (by intro c a d v w h; cases d <;> exact h) (fun w => (q_assign rfl)) rfl (listed' := #[true, true, true, true, true, true, true, true, true, true, true, true, true, true, true, true]) rfl fun a hA => ?_
          refine a_end (by kernel_rfl) ?_ _
          refine hK18 _ _ ?_
          clear hK18
          replace hA := hA.sub (E' := [(12, _), (11, _), (10, _), (9, _), (8, _), (1, _), (2, _), (3, _)]) ⟨rfl, rfl, rfl, rfl, rfl, rfl, rfl, rfl, trivial⟩
          refine wp_seq_k fun K23 hK23 => ?_
          refine any_go mixed (fun j => !(Nat.beq j 9 || Nat.beq j 14)) hH ?_
          clear hH; intro w hH
          have hS := hH
          change wpK _ _ _ _ _ _ 16 #[false, false, false, false, false, false, false, false, false, false, false, false, false, false, false, false] _ _
          refine aq hA 0 rfl (by kernel_rfl) (by intro c a d v w h; cases d <;> exact h) hS (fun w hH => (q_loadW hH 0 rfl Tryd.underlying24 rfl ti24 rfl (by first | rfl | (simp; done) | (rw [List.length_map]; exact hvl) | exact hvl))) rfl (listed' := #[true, false, false, false, false, false, false, false, false, false, false, false, false, false, false, false]) rfl fun a hA => ?_
          refine apq hA 1 rfl (by kernel_rfl) (by intro c a d v w h; cases d <;> exact h) (fun w => (q_move rfl)) rfl (listed' := #[true, true, false, false, false, false, false, false, false, false, false, false, false, false, false, false]) rfl fun a hA => ?_
          refine apq hA 2 rfl (by kernel_rfl) (by intro c a d v w h; cases d <;> exact h) (fun w => (q_move rfl)) rfl (listed' := #[true, true, true, false, false, false, false, false, false, false, false, false, false, false, false, false]) rfl fun a hA => ?_
          refine apq hA 3 rfl (by kernel_rfl) (by intro c a d v w h; cases d <;> exact h) (fun w => (q_shlI (n := k) (2 ^ k) rfl rfl (by omega) rfl (by omega))) rfl (listed' := #[true, true, true, true, false, false, false, false, false, false, false, false, false, false, false, false]) rfl fun a hA => ?_
          rw [hck] at hA
          refine apq hA 4 rfl (by kernel_rfl) (by intro c a d v w h; cases d <;> exact h) (fun w => (q_quoI rfl rfl (by omega))) rfl (listed' := #[true, true, true, true, true, false, false, false, false, false, false, false, false, false, false, false]) rfl fun a hA => ?_
          rw [show ((i : Nat) : Int) / ((qk : Nat) : Int) = ((i / qk : Nat) : Int) from (Int.natCast_ediv i qk).symm] at hA
          refine apq hA 5 rfl (by kernel_rfl) (by intro c a d v w h; cases d <;> exact h) (fun w => (q_move rfl)) rfl (listed' := #[true, true, true, true, true, true, false, false, false, false, false, false, false, false, false, false]) rfl fun a hA => ?_
          refine apq hA 6 rfl (by kernel_rfl) (by intro c a d v w h; cases d <;> exact h) (fun w => (q_move rfl)) rfl (listed' := #[true, true, true, true, true, true, true, false, false, false, false, false, false, false, false, false]) rfl fun a hA => ?_
          obtain ⟨v_t69, hv_t69, hO_t69⟩ := Rd.cut hr (k) (ds.length) (by first | omega | (simp; omega) | (simp [*]; omega)) (by first | omega | (simp; omega) | (simp [*]; omega))
          replace hO_t69 : RdD [] w0 v_t69 (ds.drop k) := RdD.dropOf hd hk hO_t69
          refine apq hA 7 rfl (by kernel_rfl) (by intro c a d v w h; cases d <;> exact h) (fun w => (q_slice Tryd.underlying22 ti24 rfl (k) (ds.length) hv_t69 (Rd.shp hr) rfl rfl (rfl) (by first | rfl | (simp; done) | omega) (by first | omega | (simp; omega) | (simp [*]; omega)) (by first | omega | (simp; omega) | (simp [*]; omega)))) rfl (listed' := #[true, true, true, true, true, true, true, true, false, false, false, false, false, false, false, false]) rfl fun a hA => ?_
          refine a_ch2 (i := 8) (j := 13) (by kernel_rfl) ?_ ?_
          · skip
            refine oneL hA 8 rfl (lo_call fn17 rfl (own6_any _ (ds.drop k) (hd.drop k) (hH.rd hO_t69) (by omega))) rfl (listed' := #[true, true, true, true, true, true, true, true, true, false, false, false, false, false, false, false]) rfl ?_
            rintro _ w ⟨v_t70, N_t70, rfl, hO_t70, hC⟩
            replace hH := HS.call0 hH hC
            clear hC
            have hS' := hH.pick [1, 2, 3, 4, 5] (Hs' := [_, _, _, _, _]) rfl
            replace hS := hS'; clear hS'
            refine ⟨fun _ _ => hS, ?_⟩
            intro a hA
            refine a_ch2 (i := 9) (j := 13) (by kernel_rfl) ?_ ?_
            · skip
              refine oneL hA 9 rfl (lo_call fn25 rfl (climb_at (climb_any (hg.mono0 hH) (clm p (i % qk) (ds.take k) k) (i / qk) _ (ds.drop k) hvl (hd.drop k) (Own.rd0 hO_t70 hH 0 rfl) (by omega) (by rw [hkd]; exact clm_quo hk hqk hqn hin)) hkd)) rfl (listed' := #[true, true, true, true, true, true, true, true, true, true, false, false, false, false, false, false]) rfl ?_
              rintro _ w ⟨rfl, hC⟩
              replace hH := HS.call0 hH hC
              clear hC
              refine ⟨fun _ h => absurd h (by decide), ?_⟩
              intro a hA
              refine apq hA 10 rfl (by kernel_rfl) (by intro c a d v w h; cases d <;> exact h) (fun w => (q_move rfl)) rfl (listed' := #[true, true, true, true, true, true, true, true, true, true, true, false, false, false, false, false]) rfl fun a hA => ?_
              refine apq hA 11 rfl (by kernel_rfl) (by intro c a d v w h; cases d <;> exact h) (fun w => (q_extract rfl rfl)) rfl (listed' := #[true, true, true, true, true, true, true, true, true, true, true, true, false, false, false, false]) rfl fun a hA => ?_
              refine apq hA 12 rfl (by kernel_rfl) (by intro c a d v w h; cases d <;> exact h) (fun w => (q_extract rfl rfl)) rfl (listed' := #[true, true, true, true, true, true, true, true, true, true, true, true, true, false, false, false]) rfl fun a hA => ?_
              refine al hA 13 rfl (by kernel_rfl) (lo_allocA hH ti24) rfl (listed' := #[true, true, true, true, true, true, true, true, true, true, true, true, true, true, false, false]) rfl ?_
              clear hH; rintro _ w ⟨b_t13, rfl, hH⟩
              have hS' := hH.pick [2, 3, 4, 5, 6] (Hs' := [_, _, _, _, _]) rfl
              replace hS := hS'; clear hS'
              refine ⟨fun _ _ => hS, ?_⟩
              intro a hA
              refine al0 hA 14 rfl (by kernel_rfl) (lo_storeAm hH ti24 rfl rfl (by first | rfl | (simp; done) | (rw [List.length_map]; exact hvh) | exact hvh) (by first | rfl | (simp; done) | (rw [List.length_map]; exact hvh) | exact hvh) (one_B8 _)) (listed' := #[true, true, true, true, true, true, true, true, true, true, true, true, true, true, true, false]) rfl ?_
              clear hH; rintro _ w hH
              refine ⟨fun _ h => absurd h (by decide), ?_⟩
              refine apq hA 15 rfl (by kernel_rfl) (by intro c a d v w h; cases d <;> exact h) (fun w => (q_assign rfl)) rfl (listed' := #[true, true, true, true, true, true, true, true, true, true, true, true, true, true, true, true]) rfl fun a hA => ?_
              refine a_end (by kernel_rfl) ?_ _
              refine hK23 _ _ ?_
              clear hK23
              replace hA := hA.sub (E' := [(14, _), (13, _), (12, _), (10, _), (9, _), (8, _)]) ⟨rfl, rfl, rfl, rfl, rfl, rfl, trivial⟩
              refine wp_seq_k fun K24 hK24 => ?_
              refine wp_region_lit ?_
              refine sq hA (q_move rfl) rfl fun a hA => ?_
              refine sq hA (Runs.bt (q_eqlI (n := 0) rfl rfl) (by rfl)) rfl fun a hA => ?_
              refine sq hA (q_move rfl) rfl fun a hA => ?_
              refine gq hA rfl rfl (q_move rfl) rfl fun a hA => ?_
              refine gq hA rfl rfl (Runs.bt (q_eqlI (n := 0) rfl rfl) (by rfl)) rfl fun a hA => ?_
              refine sq hA (q_pick_t rfl rfl) rfl fun a hA => ?_
              refine sq hA (q_move rfl) rfl fun a hA => ?_
              refine gq hA rfl rfl (q_move rfl) rfl fun a hA => ?_
              refine gq hA rfl rfl (Runs.bt (q_eqlI (n := 0) rfl rfl) (by rfl)) rfl fun a hA => ?_
              refine sq hA (q_pick_t rfl rfl) rfl fun a hA => ?_
              refine sq hA (q_move rfl) rfl fun a hA => ?_
              refine gq hA rfl rfl (q_loadW hH 4 rfl Tryd.underlying24 rfl ti24 rfl (by first | rfl | (simp; done) | (rw [List.length_map]; exact hva) | exact hva)) rfl fun a hA => ?_
              refine gq hA rfl rfl (q_loadW hH 0 rfl Tryd.underlying24 rfl ti24 rfl (by first | rfl | (simp; done) | (rw [List.length_map]; exact hvh) | exact hvh)) rfl fun a hA => ?_
              refine gq hA rfl rfl (Runs.bt (q_eqlA8 (p := clm p i ds ds.length) (q := clm (clm p (i % qk) (ds.take k) k) (i / qk) (ds.drop k) (ds.length - k)) eqa24 rfl rfl rfl rfl (by first | exact hva | exact hvh) (by first | exact hva | exact hvh)) (by rw [hqk]; exact (clm_parts p i ds hk).symm)) rfl fun a hA => ?_
              refine sq hA (q_pick_t rfl rfl) rfl fun a hA => ?_
              refine sq hA (q_move rfl) rfl fun a hA => ?_
              refine gl hA rfl rfl (lo_call fn15 rfl (awake6_any (hg.mono0 hH))) rfl ?_
              rintro _ w ⟨rfl, hC⟩ a hA
              replace hH := HS.call0 hH hC
              clear hC
              refine sq hA (q_pick_t rfl rfl) rfl fun a hA => ?_
              refine sq hA (q_assign rfl) rfl fun a hA => ?_
              refine wpList_nil ?_
              refine hK24 _ _ ?_
              clear hK24
              replace hA := hA.sub (E' := [(8, _)]) ⟨rfl, trivial⟩
              refine wp_ret ?_
              refine post_ret hA (res_1 rfl hA rfl) ?_
              replace hH := hH.pick [] (Hs' := []) rfl
              exact ⟨_, rfl, rfl, hH⟩
            · skip
              refine oneL hA 13 rfl (lo_allocA hH ti24) rfl (listed' := #[true, true, true, true, true, true, true, true, true, false, false, false, false, true, false, false]) rfl ?_
              clear hH; rintro _ w ⟨b_t13, rfl, hH⟩
              have hS' := hH.pick [2, 3, 4, 5, 6] (Hs' := [_, _, _, _, _]) rfl
              replace hS := hS'; clear hS'
              refine ⟨fun _ _ => hS, ?_⟩
              intro a hA
              refine al hA 9 rfl (by kernel_rfl) (lo_call fn25 rfl (climb_at (climb_any (hg.mono0 hH) (clm p (i % qk) (ds.take k) k) (i / qk) _ (ds.drop k) hvl (hd.drop k) (Own.rd0 hO_t70 hH 1 rfl) (by omega) (by rw [hkd]; exact clm_quo hk hqk hqn hin)) hkd)) rfl (listed' := #[true, true, true, true, true, true, true, true, true, true, false, false, false, true, false, false]) rfl ?_
              rintro _ w ⟨rfl, hC⟩
              replace hH := HS.call0 hH hC
              clear hC
              refine ⟨fun _ h => absurd h (by decide), ?_⟩
              intro a hA
              refine apq hA 10 rfl (by kernel_rfl) (by intro c a d v w h; cases d <;> exact h) (fun w => (q_move rfl)) rfl (listed' := #[true, true, true, true, true, true, true, true, true, true, true, false, false, true, false, false]) rfl fun a hA => ?_
              refine apq hA 11 rfl (by kernel_rfl) (by intro c a d v w h; cases d <;> exact h) (fun w => (q_extract rfl rfl)) rfl (listed' := #[true, true, true, true, true, true, true, true, true, true, true, true, false, true, false, false]) rfl fun a hA => ?_
              refine apq hA 12 rfl (by kernel_rfl) (by intro c a d v w h; cases d <;> exact h) (fun w => (q_extract rfl rfl)) rfl (listed' := #[true, true, true, true, true, true, true, true, true, true, true, true, true, true, false, false]) rfl fun a hA => ?_
              refine al0 hA 14 rfl (by kernel_rfl) (lo_storeAm hH ti24 rfl rfl (by first | rfl | (simp; done) | (rw [List.length_map]; exact hvh) | exact hvh) (by first | rfl | (simp; done) | (rw [List.length_map]; exact hvh) | exact hvh) (one_B8 _)) (listed' := #[true, true, true, true, true, true, true, true, true, true, true, true, true, true, true, false]) rfl ?_
              clear hH; rintro _ w hH
              refine ⟨fun _ h => absurd h (by decide), ?_⟩
              refine apq hA 15 rfl (by kernel_rfl) (by intro c a d v w h; cases d <;> exact h) (fun w => (q_assign rfl)) rfl (listed' := #[true, true, true, true, true, true, true, true, true, true, true, true, true, true, true, true]) rfl fun a hA => ?_
              refine a_end (by kernel_rfl) ?_ _
              refine hK23 _ _ ?_
              clear hK23
              replace hA := hA.sub (E' := [(14, _), (13, _), (12, _), (10, _), (9, _), (8, _)]) ⟨rfl, rfl, rfl, rfl, rfl, rfl, trivial⟩
              refine wp_seq_k fun K25 hK25 => ?_
              refine wp_region_lit ?_
              refine sq hA (q_move rfl) rfl fun a hA => ?_
              refine sq hA (Runs.bt (q_eqlI (n := 0) rfl rfl) (by rfl)) rfl fun a hA => ?_
              refine sq hA (q_move rfl) rfl fun a hA => ?_
              refine gq hA rfl rfl (q_move rfl) rfl fun a hA => ?_
              refine gq hA rfl rfl (Runs.bt (q_eqlI (n := 0) rfl rfl) (by rfl)) rfl fun a hA => ?_
              refine sq hA (q_pick_t rfl rfl) rfl fun a hA => ?_
              refine sq hA (q_move rfl) rfl fun a hA => ?_
              refine gq hA rfl rfl (q_move rfl) rfl fun a hA => ?_
              refine gq hA rfl rfl (Runs.bt (q_eqlI (n := 0) rfl rfl) (by rfl)) rfl fun a hA => ?_
              refine sq hA (q_pick_t rfl rfl) rfl fun a hA => ?_
              refine sq hA (q_move rfl) rfl fun a hA => ?_
              refine gq hA rfl rfl (q_loadW hH 4 rfl Tryd.underlying24 rfl ti24 rfl (by first | rfl | (simp; done) | (rw [List.length_map]; exact hva) | exact hva)) rfl fun a hA => ?_
              refine gq hA rfl rfl (q_loadW hH 0 rfl Tryd.underlying24 rfl ti24 rfl (by first | rfl | (simp; done) | (rw [List.length_map]; exact hvh) | exact hvh)) rfl fun a hA => ?_
              refine gq hA rfl rfl (Runs.bt (q_eqlA8 (p := clm p i ds ds.length) (q := clm (clm p (i % qk) (ds.take k) k) (i / qk) (ds.drop k) (ds.length - k)) eqa24 rfl rfl rfl rfl (by first | exact hva | exact hvh) (by first | exact hva | exact hvh)) (by rw [hqk]; exact (clm_parts p i ds hk).symm)) rfl fun a hA => ?_
              refine sq hA (q_pick_t rfl rfl) rfl fun a hA => ?_
              refine sq hA (q_move rfl) rfl fun a hA => ?_
              refine gl hA rfl rfl (lo_call fn15 rfl (awake6_any (hg.mono0 hH))) rfl ?_
              rintro _ w ⟨rfl, hC⟩ a hA
              replace hH := HS.call0 hH hC
              clear hC
              refine sq hA (q_pick_t rfl rfl) rfl fun a hA => ?_
              refine sq hA (q_assign rfl) rfl fun a hA => ?_
              refine wpList_nil ?_
              refine hK25 _ _ ?_
              clear hK25
              replace hA := hA.sub (E' := [(8, _)]) ⟨rfl, trivial⟩
              refine wp_ret ?_
              refine post_ret hA (res_1 rfl hA rfl) ?_
              replace hH := hH.pick [] (Hs' := []) rfl
              exact ⟨_, rfl, rfl, hH⟩
          · skip
            refine oneL hA 13 rfl (lo_allocA hH ti24) rfl (listed' := #[true, true, true, true, true, true, true, true, false, false, false, false, false, true, false, false]) rfl ?_
            clear hH; rintro _ w ⟨b_t13, rfl, hH⟩
            have hS' := hH.pick [1, 2, 3, 4, 5] (Hs' := [_, _, _, _, _]) rfl
            replace hS := hS'; clear hS'
            refine ⟨fun _ _ => hS, ?_⟩
            intro a hA
            refine al hA 8 rfl (by kernel_rfl) (lo_call fn17 rfl (own6_any _ (ds.drop k) (hd.drop k) (hH.rd hO_t69) (by omega))) rfl (listed' := #[true, true, true, true, true, true, true, true, true, false, false, false, false, true, false, false]) rfl ?_
            rintro _ w ⟨v_t70, N_t70, rfl, hO_t70, hC⟩
            replace hH := HS.call0 hH hC
            clear hC
            have hS' := hH.pick [2, 3, 4, 5, 6] (Hs' := [_, _, _, _, _]) rfl
            replace hS := hS'; clear hS'
            refine ⟨fun _ _ => hS, ?_⟩
            intro a hA
            refine al hA 9 rfl (by kernel_rfl) (lo_call fn25 rfl (climb_at (climb_any (hg.mono0 hH) (clm p (i % qk) (ds.take k) k) (i / qk) _ (ds.drop k) hvl (hd.drop k) (Own.rd0 hO_t70 hH 0 rfl) (by omega) (by rw [hkd]; exact clm_quo hk hqk hqn hin)) hkd)) rfl (listed' := #[true, true, true, true, true, true, true, true, true, true, false, false, false, true, false, false]) rfl ?_
            rintro _ w ⟨rfl, hC⟩
            replace hH := HS.call0 hH hC
            clear hC
            refine ⟨fun _ h => absurd h (by decide), ?_⟩
            intro a hA
            refine apq hA 10 rfl (by kernel_rfl) (by intro c a d v w h; cases d <;> exact h) (fun w => (q_move rfl)) rfl (listed' := #[true, true, true, true, true, true, true, true, true, true, true, false, false, true, false, false]) rfl fun a hA => ?_
            refine apq hA 11 rfl (by kernel_rfl) (by intro c a d v w h; cases d <;> exact h) (fun w => (q_extract rfl rfl)) rfl (listed' := #[true, true, true, true, true, true, true, true, true, true, true, true, false, true, false, false]) rfl fun a hA => ?_
            refine apq hA 12 rfl (by kernel_rfl) (by intro c a d v w h; cases d <;> exact h) (fun w => (q_extract rfl rfl)) rfl (listed' := #[true, true, true, true, true, true, true, true, true, true, true, true, true, true, false, false]) rfl fun a hA => ?_
            replace hH := hH.pick [1, 0, 2, 3, 4, 5, 6] (Hs' := [_, _, _, _, _, _, _]) rfl
            refine al0 hA 14 rfl (by kernel_rfl) (lo_storeAm hH ti24 rfl rfl (by first | rfl | (simp; done) | (rw [List.length_map]; exact hvh) | exact hvh) (by first | rfl | (simp; done) | (rw [List.length_map]; exact hvh) | exact hvh) (one_B8 _)) (listed' := #[true, true, true, true, true, true, true, true, true, true, true, true, true, true, true, false]) rfl ?_
            clear hH; rintro _ w hH
            refine ⟨fun _ h => absurd h (by decide), ?_⟩
            refine apq hA 15 rfl (by kernel_rfl) (by intro c a d v w h; cases d <;> exact h) (fun w => (q_assign rfl)) rfl (listed' := #[true, true, true, true, true, true, true, true, true, true, true, true, true, true, true, true]) rfl fun a hA => ?_
            refine a_end (by kernel_rfl) ?_ _
            refine hK23 _ _ ?_
            clear hK23
            replace hA := hA.sub (E' := [(14, _), (13, _), (12, _), (10, _), (9, _), (8, _)]) ⟨rfl, rfl, rfl, rfl, rfl, rfl, trivial⟩
            refine wp_seq_k fun K26 hK26 => ?_
            refine wp_region_lit ?_
            refine sq hA (q_move rfl) rfl fun a hA => ?_
            refine sq hA (Runs.bt (q_eqlI (n := 0) rfl rfl) (by rfl)) rfl fun a hA => ?_
            refine sq hA (q_move rfl) rfl fun a hA => ?_
            refine gq hA rfl rfl (q_move rfl) rfl fun a hA => ?_
            refine gq hA rfl rfl (Runs.bt (q_eqlI (n := 0) rfl rfl) (by rfl)) rfl fun a hA => ?_
            refine sq hA (q_pick_t rfl rfl) rfl fun a hA => ?_
            refine sq hA (q_move rfl) rfl fun a hA => ?_
            refine gq hA rfl rfl (q_move rfl) rfl fun a hA => ?_
            refine gq hA rfl rfl (Runs.bt (q_eqlI (n := 0) rfl rfl) (by rfl)) rfl fun a hA => ?_
            refine sq hA (q_pick_t rfl rfl) rfl fun a hA => ?_
            refine sq hA (q_move rfl) rfl fun a hA => ?_
            refine gq hA rfl rfl (q_loadW hH 4 rfl Tryd.underlying24 rfl ti24 rfl (by first | rfl | (simp; done) | (rw [List.length_map]; exact hva) | exact hva)) rfl fun a hA => ?_
            refine gq hA rfl rfl (q_loadW hH 0 rfl Tryd.underlying24 rfl ti24 rfl (by first | rfl | (simp; done) | (rw [List.length_map]; exact hvh) | exact hvh)) rfl fun a hA => ?_
            refine gq hA rfl rfl (Runs.bt (q_eqlA8 (p := clm p i ds ds.length) (q := clm (clm p (i % qk) (ds.take k) k) (i / qk) (ds.drop k) (ds.length - k)) eqa24 rfl rfl rfl rfl (by first | exact hva | exact hvh) (by first | exact hva | exact hvh)) (by rw [hqk]; exact (clm_parts p i ds hk).symm)) rfl fun a hA => ?_
            refine sq hA (q_pick_t rfl rfl) rfl fun a hA => ?_
            refine sq hA (q_move rfl) rfl fun a hA => ?_
            refine gl hA rfl rfl (lo_call fn15 rfl (awake6_any (hg.mono0 hH))) rfl ?_
            rintro _ w ⟨rfl, hC⟩ a hA
            replace hH := HS.call0 hH hC
            clear hC
            refine sq hA (q_pick_t rfl rfl) rfl fun a hA => ?_
            refine sq hA (q_assign rfl) rfl fun a hA => ?_
            refine wpList_nil ?_
            refine hK26 _ _ ?_
            clear hK26
            replace hA := hA.sub (E' := [(8, _)]) ⟨rfl, trivial⟩
            refine wp_ret ?_
            refine post_ret hA (res_1 rfl hA rfl) ?_
            replace hH := hH.pick [] (Hs' := []) rfl
            exact ⟨_, rfl, rfl, hH⟩
      · skip
        refine oneL hA 13 rfl (lo_allocA hH ti24) rfl (listed' := #[true, true, true, true, true, true, true, true, false, false, false, false, false, true, false, false]) rfl ?_
        clear hH; rintro _ w ⟨b_t11, rfl, hH⟩
        have hS' := hH.pick [1, 2, 3] (Hs' := [_, _, _]) rfl
        replace hS := hS'; clear hS'
        refine ⟨fun _ _ => hS, ?_⟩
        intro a hA
        refine al hA 8 rfl (by kernel_rfl) (lo_call fn17 rfl (own6_any _ (ds.take k) (hd.take k) (hH.rd hO_t56) (by omega))) rfl (listed' := #[true, true, true, true, true, true, true, true, true, false, false, false, false, true, false, false]) rfl ?_
        rintro _ w ⟨v_t57, N_t57, rfl, hO_t57, hC⟩
        replace hH := HS.call0 hH hC
        clear hC
        have hS' := hH.pick [2, 3, 4] (Hs' := [_, _, _]) rfl
        replace hS := hS'; clear hS'
        refine ⟨fun _ _ => hS, ?_⟩
        intro a hA
        refine al hA 9 rfl (by kernel_rfl) (lo_call fn25 rfl (climb_at (climb_any (hg.mono0 hH) p (i % qk) _ (ds.take k) hp (hd.take k) (Own.rd0 hO_t57 hH 0 rfl) (by omega) (by rw [hkl, ← hqk]; exact Nat.mod_lt _ hqp)) hkl)) rfl (listed' := #[true, true, true, true, true, true, true, true, true, true, false, false, false, true, false, false]) rfl ?_
        rintro _ w ⟨rfl, hC⟩
        replace hH := HS.call0 hH hC
        clear hC
        refine ⟨fun _ h => absurd h (by decide), ?_⟩
        intro a hA
        refine apq hA 10 rfl (by kernel_rfl) (by intro c a d v w h; cases d <;> exact h) (fun w => (q_move rfl)) rfl (listed' := #[true, true, true, true, true, true, true, true, true, true, true, false, false, true, false, false]) rfl fun a hA => ?_
        refine apq hA 11 rfl (by kernel_rfl) (by intro c a d v w h; cases d <;> exact h) (fun w => (q_extract rfl rfl)) rfl (listed' := #[true, true, true, true, true, true, true, true, true, true, true, true, false, true, false, false]) rfl fun a hA => ?_
        refine apq hA 12 rfl (by kernel_rfl) (by intro c a d v w h; cases d <;> exact h) (fun w => (q_extract rfl rfl)) rfl (listed' := #[true, true, true, true, true, true, true, true, true, true, true, true, true, true, false, false]) rfl fun a hA => ?_
        replace hH := hH.pick [1, 0, 2, 3, 4] (Hs' := [_, _, _, _, _]) rfl
        refine al0 hA 14 rfl (by kernel_rfl) (lo_storeAm hH ti24 rfl rfl (by first | rfl | (simp; done) | (rw [List.length_map]; exact hvl) | exact hvl) (by first | rfl | (simp; done) | (rw [List.length_map]; exact hvl) | exact hvl) (one_B8 _)) (listed' := #[true, true, true, true, true, true, true, true, true, true, true, true, true, true, true, false]) rfl ?_
        clear hH; rintro _ w hH
        refine ⟨fun _ h => absurd h (by decide), ?_⟩
        refine apq hA 15 rfl (by kernel_rfl) (by intro c a d v w h; cases d <;> exact h) (fun w => (q_assign rfl)) rfl (listed' := #[true, true, true, true, true, true, true, true, true, true, true, true, true, true, true, true]) rfl fun a hA => ?_
        refine a_end (by kernel_rfl) ?_ _
        refine hK18 _ _ ?_
        clear hK18
        replace hA := hA.sub (E' := [(12, _), (11, _), (10, _), (9, _), (8, _), (1, _), (2, _), (3, _)]) ⟨rfl, rfl, rfl, rfl, rfl, rfl, rfl, rfl, trivial⟩
        refine wp_seq_k fun K27 hK27 => ?_
        refine any_go mixed (fun j => !(Nat.beq j 9 || Nat.beq j 14)) hH ?_
        clear hH; intro w hH
        have hS := hH
        change wpK _ _ _ _ _ _ 16 #[false, false, false, false, false, false, false, false, false, false, false, false, false, false, false, false] _ _
        refine aq hA 0 rfl (by kernel_rfl) (by intro c a d v w h; cases d <;> exact h) hS (fun w hH => (q_loadW hH 0 rfl Tryd.underlying24 rfl ti24 rfl (by first | rfl | (simp; done) | (rw [List.length_map]; exact hvl) | exact hvl))) rfl (listed' := #[true, false, false, false, false, false, false, false, false, false, false, false, false, false, false, false]) rfl fun a hA => ?_
        refine apq hA 1 rfl (by kernel_rfl) (by intro c a d v w h; cases d <;> exact h) (fun w => (q_move rfl)) rfl (listed' := #[true, true, false, false, false, false, false, false, false, false, false, false, false, false, false, false]) rfl fun a hA => ?_
        refine apq hA 2 rfl (by kernel_rfl) (by intro c a d v w h; cases d <;> exact h) (fun w => (q_move rfl)) rfl (listed' := #[true, true, true, false, false, false, false, false, false, false, false, false, false, false, false, false]) rfl fun a hA => ?_
        refine apq hA 3 rfl (by kernel_rfl) (by intro c a d v w h; cases d <;> exact h) (fun w => (q_shlI (n := k) (2 ^ k) rfl rfl (by omega) rfl (by omega))) rfl (listed' := #[true, true, true, true, false, false, false, false, false, false, false, false, false, false, false, false]) rfl fun a hA => ?_
        rw [hck] at hA
        refine apq hA 4 rfl (by kernel_rfl) (by intro c a d v w h; cases d <;> exact h) (fun w => (q_quoI rfl rfl (by omega))) rfl (listed' := #[true, true, true, true, true, false, false, false, false, false, false, false, false, false, false, false]) rfl fun a hA => ?_
        rw [show ((i : Nat) : Int) / ((qk : Nat) : Int) = ((i / qk : Nat) : Int) from (Int.natCast_ediv i qk).symm] at hA
        refine apq hA 5 rfl (by kernel_rfl) (by intro c a d v w h; cases d <;> exact h) (fun w => (q_move rfl)) rfl (listed' := #[true, true, true, true, true, true, false, false, false, false, false, false, false, false, false, false]) rfl fun a hA => ?_
        refine apq hA 6 rfl (by kernel_rfl) (by intro c a d v w h; cases d <;> exact h) (fun w => (q_move rfl)) rfl (listed' := #[true, true, true, true, true, true, true, false, false, false, false, false, false, false, false, false]) rfl fun a hA => ?_
        obtain ⟨v_t69, hv_t69, hO_t69⟩ := Rd.cut hr (k) (ds.length) (by first | omega | (simp; omega) | (simp [*]; omega)) (by first | omega | (simp; omega) | (simp [*]; omega))
        replace hO_t69 : RdD [] w0 v_t69 (ds.drop k) := RdD.dropOf hd hk hO_t69
        refine apq hA 7 rfl (by kernel_rfl) (by intro c a d v w h; cases d <;> exact h) (fun w => (q_slice Tryd.underlying22 ti24 rfl (k) (ds.length) hv_t69 (Rd.shp hr) rfl rfl (rfl) (by first | rfl | (simp; done) | omega) (by first | omega | (simp; omega) | (simp [*]; omega)) (by first | omega | (simp; omega) | (simp [*]; omega)))) rfl (listed' := #[true, true, true, true, true, true, true, true, false, false, false, false, false, false, false, false]) rfl fun a hA => ?_
        refine a_ch2 (i := 8) (j := 13) (by kernel_rfl) ?_ ?_
        · skip
          refine oneL hA 8 rfl (lo_call fn17 rfl (own6_any _ (ds.drop k) (hd.drop k) (hH.rd hO_t69) (by omega))) rfl (listed' := #[true, true, true, true, true, true, true, true, true, false, false, false, false, false, false, false]) rfl ?_
          rintro _ w ⟨v_t70, N_t70, rfl, hO_t70, hC⟩
          replace hH := HS.call0 hH hC
          clear hC
          have hS' := hH.pick [1, 2, 3, 4, 5] (Hs' := [_, _, _, _, _]) rfl
          replace hS := hS'; clear hS'
          refine ⟨fun _ _ => hS, ?_⟩
          intro a hA
          refine a_ch2 (i := 9) (j := 13) (by kernel_rfl) ?_ ?_
          · skip
            refine oneL hA 9 rfl (lo_call fn25 rfl (climb_at (climb_any (hg.mono0 hH) (clm p (i % qk) (ds.take k) k) (i / qk) _ (ds.drop k) hvl (hd.drop k) (Own.rd0 hO_t70 hH 0 rfl) (by omega) (by rw [hkd]; exact clm_quo hk hqk hqn hin)) hkd)) rfl (listed' := #[true, true, true, true, true, true, true, true, true, true, false, false, false, false, false, false]) rfl ?_
            rintro _ w ⟨rfl, hC⟩
            replace hH := HS.call0 hH hC
            clear hC
            refine ⟨fun _ h => absurd h (by decide), ?_⟩
            intro a hA
            refine apq hA 10 rfl (by kernel_rfl) (by intro c a d v w h; cases d <;> exact h) (fun w => (q_move rfl)) rfl (listed' := #[true, true, true, true, true, true, true, true, true, true, true, false, false, false, false, false]) rfl fun a hA => ?_
            refine apq hA 11 rfl (by kernel_rfl) (by intro c a d v w h; cases d <;> exact h) (fun w => (q_extract rfl rfl)) rfl (listed' := #[true, true, true, true, true, true, true, true, true, true, true, true, false, false, false, false]) rfl fun a hA => ?_
            refine apq hA 12 rfl (by kernel_rfl) (by intro c a d v w h; cases d <;> exact h) (fun w => (q_extract rfl rfl)) rfl (listed' := #[true, true, true, true, true, true, true, true, true, true, true, true, true, false, false, false]) rfl fun a hA => ?_
            refine al hA 13 rfl (by kernel_rfl) (lo_allocA hH ti24) rfl (listed' := #[true, true, true, true, true, true, true, true, true, true, true, true, true, true, false, false]) rfl ?_
            clear hH; rintro _ w ⟨b_t13, rfl, hH⟩
            have hS' := hH.pick [2, 3, 4, 5, 6] (Hs' := [_, _, _, _, _]) rfl
            replace hS := hS'; clear hS'
            refine ⟨fun _ _ => hS, ?_⟩
            intro a hA
            refine al0 hA 14 rfl (by kernel_rfl) (lo_storeAm hH ti24 rfl rfl (by first | rfl | (simp; done) | (rw [List.length_map]; exact hvh) | exact hvh) (by first | rfl | (simp; done) | (rw [List.length_map]; exact hvh) | exact hvh) (one_B8 _)) (listed' := #[true, true, true, true, true, true, true, true, true, true, true, true, true, true, true, false]) rfl ?_
            clear hH; rintro _ w hH
            refine ⟨fun _ h => absurd h (by decide), ?_⟩
            refine apq hA 15 rfl (by kernel_rfl) (by intro c a d v w h; cases d <;> exact h) (fun w => (q_assign rfl)) rfl (listed' := #[true, true, true, true, true, true, true, true, true, true, true, true, true, true, true, true]) rfl fun a hA => ?_
            refine a_end (by kernel_rfl) ?_ _
            refine hK27 _ _ ?_
            clear hK27
            replace hA := hA.sub (E' := [(14, _), (13, _), (12, _), (10, _), (9, _), (8, _)]) ⟨rfl, rfl, rfl, rfl, rfl, rfl, trivial⟩
            refine wp_seq_k fun K28 hK28 => ?_
            refine wp_region_lit ?_
            refine sq hA (q_move rfl) rfl fun a hA => ?_
            refine sq hA (Runs.bt (q_eqlI (n := 0) rfl rfl) (by rfl)) rfl fun a hA => ?_
            refine sq hA (q_move rfl) rfl fun a hA => ?_
            refine gq hA rfl rfl (q_move rfl) rfl fun a hA => ?_
            refine gq hA rfl rfl (Runs.bt (q_eqlI (n := 0) rfl rfl) (by rfl)) rfl fun a hA => ?_
            refine sq hA (q_pick_t rfl rfl) rfl fun a hA => ?_
            refine sq hA (q_move rfl) rfl fun a hA => ?_
            refine gq hA rfl rfl (q_move rfl) rfl fun a hA => ?_
            refine gq hA rfl rfl (Runs.bt (q_eqlI (n := 0) rfl rfl) (by rfl)) rfl fun a hA => ?_
            refine sq hA (q_pick_t rfl rfl) rfl fun a hA => ?_
            refine sq hA (q_move rfl) rfl fun a hA => ?_
            refine gq hA rfl rfl (q_loadW hH 4 rfl Tryd.underlying24 rfl ti24 rfl (by first | rfl | (simp; done) | (rw [List.length_map]; exact hva) | exact hva)) rfl fun a hA => ?_
            refine gq hA rfl rfl (q_loadW hH 0 rfl Tryd.underlying24 rfl ti24 rfl (by first | rfl | (simp; done) | (rw [List.length_map]; exact hvh) | exact hvh)) rfl fun a hA => ?_
            refine gq hA rfl rfl (Runs.bt (q_eqlA8 (p := clm p i ds ds.length) (q := clm (clm p (i % qk) (ds.take k) k) (i / qk) (ds.drop k) (ds.length - k)) eqa24 rfl rfl rfl rfl (by first | exact hva | exact hvh) (by first | exact hva | exact hvh)) (by rw [hqk]; exact (clm_parts p i ds hk).symm)) rfl fun a hA => ?_
            refine sq hA (q_pick_t rfl rfl) rfl fun a hA => ?_
            refine sq hA (q_move rfl) rfl fun a hA => ?_
            refine gl hA rfl rfl (lo_call fn15 rfl (awake6_any (hg.mono0 hH))) rfl ?_
            rintro _ w ⟨rfl, hC⟩ a hA
            replace hH := HS.call0 hH hC
            clear hC
            refine sq hA (q_pick_t rfl rfl) rfl fun a hA => ?_
            refine sq hA (q_assign rfl) rfl fun a hA => ?_
            refine wpList_nil ?_
            refine hK28 _ _ ?_
            clear hK28
            replace hA := hA.sub (E' := [(8, _)]) ⟨rfl, trivial⟩
            refine wp_ret ?_
            refine post_ret hA (res_1 rfl hA rfl) ?_
            replace hH := hH.pick [] (Hs' := []) rfl
            exact ⟨_, rfl, rfl, hH⟩
          · skip
            refine oneL hA 13 rfl (lo_allocA hH ti24) rfl (listed' := #[true, true, true, true, true, true, true, true, true, false, false, false, false, true, false, false]) rfl ?_
            clear hH; rintro _ w ⟨b_t13, rfl, hH⟩
            have hS' := hH.pick [2, 3, 4, 5, 6] (Hs' := [_, _, _, _, _]) rfl
            replace hS := hS'; clear hS'
            refine ⟨fun _ _ => hS, ?_⟩
            intro a hA
            refine al hA 9 rfl (by kernel_rfl) (lo_call fn25 rfl (climb_at (climb_any (hg.mono0 hH) (clm p (i % qk) (ds.take k) k) (i / qk) _ (ds.drop k) hvl (hd.drop k) (Own.rd0 hO_t70 hH 1 rfl) (by omega) (by rw [hkd]; exact clm_quo hk hqk hqn hin)) hkd)) rfl (listed' := #[true, true, true, true, true, true, true, true, true, true, false, false, false, true, false, false]) rfl ?_
            rintro _ w ⟨rfl, hC⟩
            replace hH := HS.call0 hH hC
            clear hC
            refine ⟨fun _ h => absurd h (by decide), ?_⟩
            intro a hA
            refine apq hA 10 rfl (by kernel_rfl) (by intro c a d v w h; cases d <;> exact h) (fun w => (q_move rfl)) rfl (listed' := #[true, true, true, true, true, true, true, true, true, true, true, false, false, true, false, false]) rfl fun a hA => ?_
            refine apq hA 11 rfl (by kernel_rfl) (by intro c a d v w h; cases d <;> exact h) (fun w => (q_extract rfl rfl)) rfl (listed' := #[true, true, true, true, true, true, true, true, true, true, true, true, false, true, false, false]) rfl fun a hA => ?_
            refine apq hA 12 rfl (by kernel_rfl) (by intro c a d v w h; cases d <;> exact h) (fun w => (q_extract rfl rfl)) rfl (listed' := #[true, true, true, true, true, true, true, true, true, true, true, true, true, true, false, false]) rfl fun a hA => ?_
            refine al0 hA 14 rfl (by kernel_rfl) (lo_storeAm hH ti24 rfl rfl (by first | rfl | (simp; done) | (rw [List.length_map]; exact hvh) | exact hvh) (by first | rfl | (simp; done) | (rw [List.length_map]; exact hvh) | exact hvh) (one_B8 _)) (listed' := #[true, true, true, true, true, true, true, true, true, true, true, true, true, true, true, false]) rfl ?_
            clear hH; rintro _ w hH
            refine ⟨fun _ h => absurd h (by decide), ?_⟩
            refine apq hA 15 rfl (by kernel_rfl) (by intro c a d v w h; cases d <;> exact h) (fun w => (q_assign rfl)) rfl (listed' := #[true, true, true, true, true, true, true, true, true, true, true, true, true, true, true, true]) rfl fun a hA => ?_
            refine a_end (by kernel_rfl) ?_ _
            refine hK27 _ _ ?_
            clear hK27
            replace hA := hA.sub (E' := [(14, _), (13, _), (12, _), (10, _), (9, _), (8, _)]) ⟨rfl, rfl, rfl, rfl, rfl, rfl, trivial⟩
            refine wp_seq_k fun K29 hK29 => ?_
            refine wp_region_lit ?_
            refine sq hA (q_move rfl) rfl fun a hA => ?_
            refine sq hA (Runs.bt (q_eqlI (n := 0) rfl rfl) (by rfl)) rfl fun a hA => ?_
            refine sq hA (q_move rfl) rfl fun a hA => ?_
            refine gq hA rfl rfl (q_move rfl) rfl fun a hA => ?_
            refine gq hA rfl rfl (Runs.bt (q_eqlI (n := 0) rfl rfl) (by rfl)) rfl fun a hA => ?_
            refine sq hA (q_pick_t rfl rfl) rfl fun a hA => ?_
            refine sq hA (q_move rfl) rfl fun a hA => ?_
            refine gq hA rfl rfl (q_move rfl) rfl fun a hA => ?_
            refine gq hA rfl rfl (Runs.bt (q_eqlI (n := 0) rfl rfl) (by rfl)) rfl fun a hA => ?_
            refine sq hA (q_pick_t rfl rfl) rfl fun a hA => ?_
            refine sq hA (q_move rfl) rfl fun a hA => ?_
            refine gq hA rfl rfl (q_loadW hH 4 rfl Tryd.underlying24 rfl ti24 rfl (by first | rfl | (simp; done) | (rw [List.length_map]; exact hva) | exact hva)) rfl fun a hA => ?_
            refine gq hA rfl rfl (q_loadW hH 0 rfl Tryd.underlying24 rfl ti24 rfl (by first | rfl | (simp; done) | (rw [List.length_map]; exact hvh) | exact hvh)) rfl fun a hA => ?_
            refine gq hA rfl rfl (Runs.bt (q_eqlA8 (p := clm p i ds ds.length) (q := clm (clm p (i % qk) (ds.take k) k) (i / qk) (ds.drop k) (ds.length - k)) eqa24 rfl rfl rfl rfl (by first | exact hva | exact hvh) (by first | exact hva | exact hvh)) (by rw [hqk]; exact (clm_parts p i ds hk).symm)) rfl fun a hA => ?_
            refine sq hA (q_pick_t rfl rfl) rfl fun a hA => ?_
            refine sq hA (q_move rfl) rfl fun a hA => ?_
            refine gl hA rfl rfl (lo_call fn15 rfl (awake6_any (hg.mono0 hH))) rfl ?_
            rintro _ w ⟨rfl, hC⟩ a hA
            replace hH := HS.call0 hH hC
            clear hC
            refine sq hA (q_pick_t rfl rfl) rfl fun a hA => ?_
            refine sq hA (q_assign rfl) rfl fun a hA => ?_
            refine wpList_nil ?_
            refine hK29 _ _ ?_
            clear hK29
            replace hA := hA.sub (E' := [(8, _)]) ⟨rfl, trivial⟩
            refine wp_ret ?_
            refine post_ret hA (res_1 rfl hA rfl) ?_
            replace hH := hH.pick [] (Hs' := []) rfl
            exact ⟨_, rfl, rfl, hH⟩
        · skip
          refine oneL hA 13 rfl (lo_allocA hH ti24) rfl (listed' := #[true, true, true, true, true, true, true, true, false, false, false, false, false, true, false, false]) rfl ?_
          clear hH; rintro _ w ⟨b_t13, rfl, hH⟩
          have hS' := hH.pick [1, 2, 3, 4, 5] (Hs' := [_, _, _, _, _]) rfl
          replace hS := hS'; clear hS'
          refine ⟨fun _ _ => hS, ?_⟩
          intro a hA
          refine al hA 8 rfl (by kernel_rfl) (lo_call fn17 rfl (own6_any _ (ds.drop k) (hd.drop k) (hH.rd hO_t69) (by omega))) rfl (listed' := #[true, true, true, true, true, true, true, true, true, false, false, false, false, true, false, false]) rfl ?_
          rintro _ w ⟨v_t70, N_t70, rfl, hO_t70, hC⟩
          replace hH := HS.call0 hH hC
          clear hC
          have hS' := hH.pick [2, 3, 4, 5, 6] (Hs' := [_, _, _, _, _]) rfl
          replace hS := hS'; clear hS'
          refine ⟨fun _ _ => hS, ?_⟩
          intro a hA
          refine al hA 9 rfl (by kernel_rfl) (lo_call fn25 rfl (climb_at (climb_any (hg.mono0 hH) (clm p (i % qk) (ds.take k) k) (i / qk) _ (ds.drop k) hvl (hd.drop k) (Own.rd0 hO_t70 hH 0 rfl) (by omega) (by rw [hkd]; exact clm_quo hk hqk hqn hin)) hkd)) rfl (listed' := #[true, true, true, true, true, true, true, true, true, true, false, false, false, true, false, false]) rfl ?_
          rintro _ w ⟨rfl, hC⟩
          replace hH := HS.call0 hH hC
          clear hC
          refine ⟨fun _ h => absurd h (by decide), ?_⟩
          intro a hA
          refine apq hA 10 rfl (by kernel_rfl) (by intro c a d v w h; cases d <;> exact h) (fun w => (q_move rfl)) rfl (listed' := #[true, true, true, true, true, true, true, true, true, true, true, false, false, true, false, false]) rfl fun a hA => ?_
          refine apq hA 11 rfl (by kernel_rfl) (by intro c a d v w h; cases d <;> exact h) (fun w => (q_extract rfl rfl)) rfl (listed' := #[true, true, true, true, true, true, true, true, true, true, true, true, false, true, false, false]) rfl fun a hA => ?_
          refine apq hA 12 rfl (by kernel_rfl) (by intro c a d v w h; cases d <;> exact h) (fun w => (q_extract rfl rfl)) rfl (listed' := #[true, true, true, true, true, true, true, true, true, true, true, true, true, true, false, false]) rfl fun a hA => ?_
          replace hH := hH.pick [1, 0, 2, 3, 4, 5, 6] (Hs' := [_, _, _, _, _, _, _]) rfl
          refine al0 hA 14 rfl (by kernel_rfl) (lo_storeAm hH ti24 rfl rfl (by first | rfl | (simp; done) | (rw [List.length_map]; exact hvh) | exact hvh) (by first | rfl | (simp; done) | (rw [List.length_map]; exact hvh) | exact hvh) (one_B8 _)) (listed' := #[true, true, true, true, true, true, true, true, true, true, true, true, true, true, true, false]) rfl ?_
          clear hH; rintro _ w hH
          refine ⟨fun _ h => absurd h (by decide), ?_⟩
          refine apq hA 15 rfl (by kernel_rfl) (by intro c a d v w h; cases d <;> exact h) (fun w => (q_assign rfl)) rfl (listed' := #[true, true, true, true, true, true, true, true, true, true, true, true, true, true, true, true]) rfl fun a hA => ?_
          refine a_end (by kernel_rfl) ?_ _
          refine hK27 _ _ ?_
          clear hK27
          replace hA := hA.sub (E' := [(14, _), (13, _), (12, _), (10, _), (9, _), (8, _)]) ⟨rfl, rfl, rfl, rfl, rfl, rfl, trivial⟩
          refine wp_seq_k fun K30 hK30 => ?_
          refine wp_region_lit ?_
          refine sq hA (q_move rfl) rfl fun a hA => ?_
          refine sq hA (Runs.bt (q_eqlI (n := 0) rfl rfl) (by rfl)) rfl fun a hA => ?_
          refine sq hA (q_move rfl) rfl fun a hA => ?_
          refine gq hA rfl rfl (q_move rfl) rfl fun a hA => ?_
          refine gq hA rfl rfl (Runs.bt (q_eqlI (n := 0) rfl rfl) (by rfl)) rfl fun a hA => ?_
          refine sq hA (q_pick_t rfl rfl) rfl fun a hA => ?_
          refine sq hA (q_move rfl) rfl fun a hA => ?_
          refine gq hA rfl rfl (q_move rfl) rfl fun a hA => ?_
          refine gq hA rfl rfl (Runs.bt (q_eqlI (n := 0) rfl rfl) (by rfl)) rfl fun a hA => ?_
          refine sq hA (q_pick_t rfl rfl) rfl fun a hA => ?_
          refine sq hA (q_move rfl) rfl fun a hA => ?_
          refine gq hA rfl rfl (q_loadW hH 4 rfl Tryd.underlying24 rfl ti24 rfl (by first | rfl | (simp; done) | (rw [List.length_map]; exact hva) | exact hva)) rfl fun a hA => ?_
          refine gq hA rfl rfl (q_loadW hH 0 rfl Tryd.underlying24 rfl ti24 rfl (by first | rfl | (simp; done) | (rw [List.length_map]; exact hvh) | exact hvh)) rfl fun a hA => ?_
          refine gq hA rfl rfl (Runs.bt (q_eqlA8 (p := clm p i ds ds.length) (q := clm (clm p (i % qk) (ds.take k) k) (i / qk) (ds.drop k) (ds.length - k)) eqa24 rfl rfl rfl rfl (by first | exact hva | exact hvh) (by first | exact hva | exact hvh)) (by rw [hqk]; exact (clm_parts p i ds hk).symm)) rfl fun a hA => ?_
          refine sq hA (q_pick_t rfl rfl) rfl fun a hA => ?_
          refine sq hA (q_move rfl) rfl fun a hA => ?_
          refine gl hA rfl rfl (lo_call fn15 rfl (awake6_any (hg.mono0 hH))) rfl ?_
          rintro _ w ⟨rfl, hC⟩ a hA
          replace hH := HS.call0 hH hC
          clear hC
          refine sq hA (q_pick_t rfl rfl) rfl fun a hA => ?_
          refine sq hA (q_assign rfl) rfl fun a hA => ?_
          refine wpList_nil ?_
          refine hK30 _ _ ?_
          clear hK30
          replace hA := hA.sub (E' := [(8, _)]) ⟨rfl, trivial⟩
          refine wp_ret ?_
          refine post_ret hA (res_1 rfl hA rfl) ?_
          replace hH := hH.pick [] (Hs' := []) rfl
          exact ⟨_, rfl, rfl, hH⟩
  · skip
    refine oneL hA 8 rfl (lo_allocA hH ti24) rfl (listed' := #[true, true, true, false, false, false, false, false, true, false, false]) rfl ?_
    clear hH; rintro _ w ⟨b_t9, rfl, hH⟩
    have hS' := hH.pick [1] (Hs' := [_]) rfl
    replace hS := hS'; clear hS'
    refine ⟨fun _ _ => hS, ?_⟩
    intro a hA
    refine al hA 3 rfl (by kernel_rfl) (lo_call fn17 rfl (own6_any _ (ds) hd (hH.rd hr) (by omega))) rfl (listed' := #[true, true, true, true, false, false, false, false, true, false, false]) rfl ?_
    rintro _ w ⟨v_t44, N_t44, rfl, hO_t44, hC⟩
    replace hH := HS.call0 hH hC
    clear hC
    have hS' := hH.pick [2] (Hs' := [_]) rfl
    replace hS := hS'; clear hS'
    refine ⟨fun _ _ => hS, ?_⟩
    intro a hA
    refine al hA 4 rfl (by kernel_rfl) (lo_call fn25 rfl (climb_any (hg.mono0 hH) p i _ ds hp hd (Own.rd0 hO_t44 hH 0 rfl) hl2 hi)) rfl (listed' := #[true, true, true, true, true, false, false, false, true, false, false]) rfl ?_
    rintro _ w ⟨rfl, hC⟩
    replace hH := HS.call0 hH hC
    clear hC
    refine ⟨fun _ h => absurd h (by decide), ?_⟩
    intro a hA
    refine apq hA 5 rfl (by kernel_rfl) (by intro c a d v w h; cases d <;> exact h) (fun w => (q_move rfl)) rfl (listed' := #[true, true, true, true, true, true, false, false, true, false, false]) rfl fun a hA => ?_
    refine apq hA 6 rfl (by kernel_rfl) (by intro c a d v w h; cases d <;> exact h) (fun w => (q_extract rfl rfl)) rfl (listed' := #[true, true, true, true, true, true, true, false, true, false, false]) rfl fun a hA => ?_
    refine apq hA 7 rfl (by kernel_rfl) (by intro c a d v w h; cases d <;> exact h) (fun w => (q_extract rfl rfl)) rfl (listed' := #[true, true, true, true, true, true, true, true, true, false, false]) rfl fun a hA => ?_
    replace hH := hH.pick [1, 0, 2] (Hs' := [_, _, _]) rfl
    refine al0 hA 9 rfl (by kernel_rfl) (lo_storeAm hH ti24 rfl rfl (by first | rfl | (simp; done) | (rw [List.length_map]; exact hva) | exact hva) (by first | rfl | (simp; done) | (rw [List.length_map]; exact hva) | exact hva) (one_B8 _)) (listed' := #[true, true, true, true, true, true, true, true, true, true, false]) rfl ?_
    clear hH; rintro _ w hH
    refine ⟨fun _ h => absurd h (by decide), ?_⟩
    refine apq hA 10 rfl (by kernel_rfl) (by intro c a d v w h; cases d <;> exact h) (fun w => (q_assign rfl)) rfl (listed' := #[true, true, true, true, true, true, true, true, true, true, true]) rfl fun a hA => ?_
    refine a_end (by kernel_rfl) ?_ _
    refine hK4 _ _ ?_
    clear hK4
    replace hA := hA.sub (E' := [(10, _), (9, _), (8, _), (4, _), (1, _), (2, _), (3, _)]) ⟨rfl, rfl, rfl, rfl, rfl, rfl, rfl, trivial⟩
    refine wp_seq_k fun K31 hK31 => ?_
    refine any_go mixed (fun j => !(Nat.beq j 9 || Nat.beq j 14)) hH ?_
    clear hH; intro w hH
    have hS := hH
    change wpK _ _ _ _ _ _ 16 #[false, false, false, false, false, false, false, false, false, false, false, false, false, false, false, false] _ _
    refine aq hA 0 rfl (by kernel_rfl) (by intro c a d v w h; cases d <;> exact h) hS (fun w hH => (q_loadW hH 2 rfl Tryd.underlying24 rfl ti24 rfl (by first | omega | (simp; done) | (simp; omega) | (simp [*]; done) | (simp [*]; omega)))) rfl (listed' := #[true, false, false, false, false, false, false, false, false, false, false, false, false, false, false, false]) rfl fun a hA => ?_
    refine apq hA 1 rfl (by kernel_rfl) (by intro c a d v w h; cases d <;> exact h) (fun w => (q_move rfl)) rfl (listed' := #[true, true, false, false, false, false, false, false, false, false, false, false, false, false, false, false]) rfl fun a hA => ?_
    refine apq hA 2 rfl (by kernel_rfl) (by intro c a d v w h; cases d <;> exact h) (fun w => (q_move rfl)) rfl (listed' := #[true, true, true, false, false, false, false, false, false, false, false, false, false, false, false, false]) rfl fun a hA => ?_
    refine apq hA 3 rfl (by kernel_rfl) (by intro c a d v w h; cases d <;> exact h) (fun w => (q_shlI (n := k) (2 ^ k) rfl rfl (by omega) rfl (by omega))) rfl (listed' := #[true, true, true, true, false, false, false, false, false, false, false, false, false, false, false, false]) rfl fun a hA => ?_
    rw [hck] at hA
    refine apq hA 4 rfl (by kernel_rfl) (by intro c a d v w h; cases d <;> exact h) (fun w => (q_remI rfl rfl (by omega))) rfl (listed' := #[true, true, true, true, true, false, false, false, false, false, false, false, false, false, false, false]) rfl fun a hA => ?_
    rw [show ((i : Nat) : Int) % ((qk : Nat) : Int) = ((i % qk : Nat) : Int) from (Int.natCast_emod i qk).symm] at hA
    refine apq hA 5 rfl (by kernel_rfl) (by intro c a d v w h; cases d <;> exact h) (fun w => (q_move rfl)) rfl (listed' := #[true, true, true, true, true, true, false, false, false, false, false, false, false, false, false, false]) rfl fun a hA => ?_
    refine apq hA 6 rfl (by kernel_rfl) (by intro c a d v w h; cases d <;> exact h) (fun w => (q_move rfl)) rfl (listed' := #[true, true, true, true, true, true, true, false, false, false, false, false, false, false, false, false]) rfl fun a hA => ?_
    obtain ⟨v_t56, hv_t56, hO_t56⟩ := Rd.cut hr (0) (k) (by first | omega | (simp; omega) | (simp [*]; omega)) (by first | omega | (simp; omega) | (simp [*]; omega))
    replace hO_t56 : RdD [] w0 v_t56 (ds.take k) := RdD.takeOf hd hk hO_t56
    refine apq hA 7 rfl (by kernel_rfl) (by intro c a d v w h; cases d <;> exact h) (fun w => (q_slice Tryd.underlying22 ti24 rfl (0) (k) hv_t56 (Rd.shp hr) rfl rfl (rfl) (rfl) (by first | omega | (simp; omega) | (simp [*]; omega)) (by first | omega | (simp; omega) | (simp [*]; omega)))) rfl (listed' := #[true, true, true, true, true, true, true, true, false, false, false, false, false, false, false, false]) rfl fun a hA => ?_
    refine a_ch2 (i := 8) (j := 13) (by kernel_rfl) ?_ ?_
    · skip
      refine oneL hA 8 rfl (lo_call fn17 rfl (own6_any _ (ds.take k) (hd.take k) (hH.rd hO_t56) (by omega))) rfl (listed' := #[true, true, true, true, true, true, true, true, true, false, false, false, false, false, false, false]) rfl ?_
      rintro _ w ⟨v_t57, N_t57, rfl, hO_t57, hC⟩
      replace hH := HS.call0 hH hC
      clear hC
      have hS' := hH.pick [1, 2, 3] (Hs' := [_, _, _]) rfl
      replace hS := hS'; clear hS'
      refine ⟨fun _ _ => hS, ?_⟩
      intro a hA
      refine a_ch2 (i := 9) (j := 13) (by kernel_rfl) ?_ ?_
      · skip
        refine oneL hA 9 rfl (lo_call fn25 rfl (climb_at (climb_any (hg.mono0 hH) p (i % qk) _ (ds.take k) hp (hd.take k) (Own.rd0 hO_t57 hH 0 rfl) (by omega) (by rw [hkl, ← hqk]; exact Nat.mod_lt _ hqp)) hkl)) rfl (listed' := #[true, true, true, true, true, true, true, true, true, true, false, false, false, false, false, false]) rfl ?_
        rintro _ w ⟨rfl, hC⟩
        replace hH := HS.call0 hH hC
        clear hC
        refine ⟨fun _ h => absurd h (by decide), ?_⟩
        intro a hA
        refine apq hA 10 rfl (by kernel_rfl) (by intro c a d v w h; cases d <;> exact h) (fun w => (q_move rfl)) rfl (listed' := #[true, true, true, true, true, true, true, true, true, true, true, false, false, false, false, false]) rfl fun a hA => ?_
        refine apq hA 11 rfl (by kernel_rfl) (by intro c a d v w h; cases d <;> exact h) (fun w => (q_extract rfl rfl)) rfl (listed' := #[true, true, true, true, true, true, true, true, true, true, true, true, false, false, false, false]) rfl fun a hA => ?_
        refine apq hA 12 rfl (by kernel_rfl) (by intro c a d v w h; cases d <;> exact h) (fun w => (q_extract rfl rfl)) rfl (listed' := #[true, true, true, true, true, true, true, true, true, true, true, true, true, false, false, false]) rfl fun a hA => ?_
        refine al hA 13 rfl (by kernel_rfl) (lo_allocA hH ti24) rfl (listed' := #[true, true, true, true, true, true, true, true, true, true, true, true, true, true, false, false]) rfl ?_
        clear hH; rintro _ w ⟨b_t11, rfl, hH⟩
        have hS' := hH.pick [2, 3, 4] (Hs' := [_, _, _]) rfl
        replace hS := hS'; clear hS'
        refine ⟨fun _ _ => hS, ?_⟩
        intro a hA
        refine al0 hA 14 rfl (by kernel_rfl) (lo_storeAm hH ti24 rfl rfl (by first | rfl | (simp; done) | (rw [List.length_map]; exact hvl) | exact hvl) (by first | rfl | (simp; done) | (rw [List.length_map]; exact hvl) | exact hvl) (one_B8 _)) (listed' := #[true, true, true, true, true, true, true, true, true, true, true, true, true, true, true, false]) rfl ?_
        clear hH; rintro _ w hH
        refine ⟨fun _ h => absurd h (by decide), ?_⟩
        refine apq hA 15 rfl (by kernel_rfl) (by intro c a d v w h; cases d <;> exact h) (fun w => (q_assign rfl)) rfl (listed' := #[true, true, true, true, true, true, true, true, true, true, true, true, true, true, true, true]) rfl fun a hA => ?_
        refine a_end (by kernel_rfl) ?_ _
        refine hK31 _ _ ?_
        clear hK31
        replace hA := hA.sub (E' := [(12, _), (11, _), (10, _), (9, _), (8, _), (1, _), (2, _), (3, _)]) ⟨rfl, rfl, rfl, rfl, rfl, rfl, rfl, rfl, trivial⟩
        refine wp_seq_k fun K32 hK32 => ?_
        refine any_go mixed (fun j => !(Nat.beq j 9 || Nat.beq j 14)) hH ?_
        clear hH; intro w hH
        have hS := hH
        change wpK _ _ _ _ _ _ 16 #[false, false, false, false, false, false, false, false, false, false, false, false, false, false, false, false] _ _
        refine aq hA 0 rfl (by kernel_rfl) (by intro c a d v w h; cases d <;> exact h) hS (fun w hH => (q_loadW hH 0 rfl Tryd.underlying24 rfl ti24 rfl (by first | rfl | (simp; done) | (rw [List.length_map]; exact hvl) | exact hvl))) rfl (listed' := #[true, false, false, false, false, false, false, false, false, false, false, false, false, false, false, false]) rfl fun a hA => ?_
        refine apq hA 1 rfl (by kernel_rfl) (by intro c a d v w h; cases d <;> exact h) (fun w => (q_move rfl)) rfl (listed' := #[true, true, false, false, false, false, false, false, false, false, false, false, false, false, false, false]) rfl fun a hA => ?_
        refine apq hA 2 rfl (by kernel_rfl) (by intro c a d v w h; cases d <;> exact h) (fun w => (q_move rfl)) rfl (listed' := #[true, true, true, false, false, false, false, false, false, false, false, false, false, false, false, false]) rfl fun a hA => ?_
        refine apq hA 3 rfl (by kernel_rfl) (by intro c a d v w h; cases d <;> exact h) (fun w => (q_shlI (n := k) (2 ^ k) rfl rfl (by omega) rfl (by omega))) rfl (listed' := #[true, true, true, true, false, false, false, false, false, false, false, false, false, false, false, false]) rfl fun a hA => ?_
        rw [hck] at hA
        refine apq hA 4 rfl (by kernel_rfl) (by intro c a d v w h; cases d <;> exact h) (fun w => (q_quoI rfl rfl (by omega))) rfl (listed' := #[true, true, true, true, true, false, false, false, false, false, false, false, false, false, false, false]) rfl fun a hA => ?_
        rw [show ((i : Nat) : Int) / ((qk : Nat) : Int) = ((i / qk : Nat) : Int) from (Int.natCast_ediv i qk).symm] at hA
        refine apq hA 5 rfl (by kernel_rfl) (by intro c a d v w h; cases d <;> exact h) (fun w => (q_move rfl)) rfl (listed' := #[true, true, true, true, true, true, false, false, false, false, false, false, false, false, false, false]) rfl fun a hA => ?_
        refine apq hA 6 rfl (by kernel_rfl) (by intro c a d v w h; cases d <;> exact h) (fun w => (q_move rfl)) rfl (listed' := #[true, true, true, true, true, true, true, false, false, false, false, false, false, false, false, false]) rfl fun a hA => ?_
        obtain ⟨v_t69, hv_t69, hO_t69⟩ := Rd.cut hr (k) (ds.length) (by first | omega | (simp; omega) | (simp [*]; omega)) (by first | omega | (simp; omega) | (simp [*]; omega))
        replace hO_t69 : RdD [] w0 v_t69 (ds.drop k) := RdD.dropOf hd hk hO_t69
        refine apq hA 7 rfl (by kernel_rfl) (by intro c a d v w h; cases d <;> exact h) (fun w => (q_slice Tryd.underlying22 ti24 rfl (k) (ds.length) hv_t69 (Rd.shp hr) rfl rfl (rfl) (by first | rfl | (simp; done) | omega) (by first | omega | (simp; omega) | (simp [*]; omega)) (by first | omega | (simp; omega) | (simp [*]; omega)))) rfl (listed' := #[true, true, true, true, true, true, true, true, false, false, false, false, false, false, false, false]) rfl fun a hA => ?_
        refine a_ch2 (i := 8) (j := 13) (by kernel_rfl) ?_ ?_
        · skip
          refine oneL hA 8 rfl (lo_call fn17 rfl (own6_any _ (ds.drop k) (hd.drop k) (hH.rd hO_t69) (by omega))) rfl (listed' := #[true, true, true, true, true, true, true, true, true, false, false, false, false, false, false, false]) rfl ?_
          rintro _ w ⟨v_t70, N_t70, rfl, hO_t70, hC⟩
          replace hH := HS.call0 hH hC
          clear hC
          have hS' := hH.pick [1, 2, 3, 4, 5] (Hs' := [_, _, _, _, _]) rfl
          replace hS := hS'; clear hS'
          refine ⟨fun _ _ => hS, ?_⟩
          intro a hA
          refine a_ch2 (i := 9) (j := 13) (by kernel_rfl) ?_ ?_
          · skip
            refine oneL hA 9 rfl (lo_call fn25 rfl (climb_at (climb_any (hg.mono0 hH) (clm p (i % qk) (ds.take k) k) (i / qk) _ (ds.drop k) hvl (hd.drop k) (Own.rd0 hO_t70 hH 0 rfl) (by omega) (by rw [hkd]; exact clm_quo hk hqk hqn hin)) hkd)) rfl (listed' := #[true, true, true, true, true, true, true, true, true, true, false, false, false, false, false, false]) rfl ?_
            rintro _ w ⟨rfl, hC⟩
            replace hH := HS.call0 hH hC
            clear hC
            refine ⟨fun _ h => absurd h (by decide), ?_⟩
            intro a hA
            refine apq hA 10 rfl (by kernel_rfl) (by intro c a d v w h; cases d <;> exact h) (fun w => (q_move rfl)) rfl (listed' := #[true, true, true, true, true, true, true, true, true, true, true, false, false, false, false, false]) rfl fun a hA => ?_
            refine apq hA 11 rfl (by kernel_rfl) (by intro c a d v w h; cases d <;> exact h) (fun w => (q_extract rfl rfl)) rfl (listed' := #[true, true, true, true, true, true, true, true, true, true, true, true, false, false, false, false]) rfl fun a hA => ?_
            refine apq hA 12 rfl (by kernel_rfl) (by intro c a d v w h; cases d <;> exact h) (fun w => (q_extract rfl rfl)) rfl (listed' := #[true, true, true, true, true, true, true, true, true, true, true, true, true, false, false, false]) rfl fun a hA => ?_
            refine al hA 13 rfl (by kernel_rfl) (lo_allocA hH ti24) rfl (listed' := #[true, true, true, true, true, true, true, true, true, true, true, true, true, true, false, false]) rfl ?_
            clear hH; rintro _ w ⟨b_t13, rfl, hH⟩
            have hS' := hH.pick [2, 3, 4, 5, 6] (Hs' := [_, _, _, _, _]) rfl
            replace hS := hS'; clear hS'
            refine ⟨fun _ _ => hS, ?_⟩
            intro a hA
            refine al0 hA 14 rfl (by kernel_rfl) (lo_storeAm hH ti24 rfl rfl (by first | rfl | (simp; done) | (rw [List.length_map]; exact hvh) | exact hvh) (by first | rfl | (simp; done) | (rw [List.length_map]; exact hvh) | exact hvh) (one_B8 _)) (listed' := #[true, true, true, true, true, true, true, true, true, true, true, true, true, true, true, false]) rfl ?_
            clear hH; rintro _ w hH
            refine ⟨fun _ h => absurd h (by decide), ?_⟩
            refine apq hA 15 rfl (by kernel_rfl) (by intro c a d v w h; cases d <;> exact h) (fun w => (q_assign rfl)) rfl (listed' := #[true, true, true, true, true, true, true, true, true, true, true, true, true, true, true, true]) rfl fun a hA => ?_
            refine a_end (by kernel_rfl) ?_ _
            refine hK32 _ _ ?_
            clear hK32
            replace hA := hA.sub (E' := [(14, _), (13, _), (12, _), (10, _), (9, _), (8, _)]) ⟨rfl, rfl, rfl, rfl, rfl, rfl, trivial⟩
            refine wp_seq_k fun K33 hK33 => ?_
            refine wp_region_lit ?_
            refine sq hA (q_move rfl) rfl fun a hA => ?_
            refine sq hA (Runs.bt (q_eqlI (n := 0) rfl rfl) (by rfl)) rfl fun a hA => ?_
            refine sq hA (q_move rfl) rfl fun a hA => ?_
            refine gq hA rfl rfl (q_move rfl) rfl fun a hA => ?_
            refine gq hA rfl rfl (Runs.bt (q_eqlI (n := 0) rfl rfl) (by rfl)) rfl fun a hA => ?_
            refine sq hA (q_pick_t rfl rfl) rfl fun a hA => ?_
            refine sq hA (q_move rfl) rfl fun a hA => ?_
            refine gq hA rfl rfl (q_move rfl) rfl fun a hA => ?_
            refine gq hA rfl rfl (Runs.bt (q_eqlI (n := 0) rfl rfl) (by rfl)) rfl fun a hA => ?_
            refine sq hA (q_pick_t rfl rfl) rfl fun a hA => ?_
            refine sq hA (q_move rfl) rfl fun a hA => ?_
            refine gq hA rfl rfl (q_loadW hH 4 rfl Tryd.underlying24 rfl ti24 rfl (by first | rfl | (simp; done) | (rw [List.length_map]; exact hva) | exact hva)) rfl fun a hA => ?_
            refine gq hA rfl rfl (q_loadW hH 0 rfl Tryd.underlying24 rfl ti24 rfl (by first | rfl | (simp; done) | (rw [List.length_map]; exact hvh) | exact hvh)) rfl fun a hA => ?_
            refine gq hA rfl rfl (Runs.bt (q_eqlA8 (p := clm p i ds ds.length) (q := clm (clm p (i % qk) (ds.take k) k) (i / qk) (ds.drop k) (ds.length - k)) eqa24 rfl rfl rfl rfl (by first | exact hva | exact hvh) (by first | exact hva | exact hvh)) (by rw [hqk]; exact (clm_parts p i ds hk).symm)) rfl fun a hA => ?_
            refine sq hA (q_pick_t rfl rfl) rfl fun a hA => ?_
            refine sq hA (q_move rfl) rfl fun a hA => ?_
            refine gl hA rfl rfl (lo_call fn15 rfl (awake6_any (hg.mono0 hH))) rfl ?_
            rintro _ w ⟨rfl, hC⟩ a hA
            replace hH := HS.call0 hH hC
            clear hC
            refine sq hA (q_pick_t rfl rfl) rfl fun a hA => ?_
            refine sq hA (q_assign rfl) rfl fun a hA => ?_
            refine wpList_nil ?_
            refine hK33 _ _ ?_
            clear hK33
            replace hA := hA.sub (E' := [(8, _)]) ⟨rfl, trivial⟩
            refine wp_ret ?_
            refine post_ret hA (res_1 rfl hA rfl) ?_
            replace hH := hH.pick [] (Hs' := []) rfl
            exact ⟨_, rfl, rfl, hH⟩
          · skip
            refine oneL hA 13 rfl (lo_allocA hH ti24) rfl (listed' := #[true, true, true, true, true, true, true, true, true, false, false, false, false, true, false, false]) rfl ?_
            clear hH; rintro _ w ⟨b_t13, rfl, hH⟩
            have hS' := hH.pick [2, 3, 4, 5, 6] (Hs' := [_, _, _, _, _]) rfl
            replace hS := hS'; clear hS'
            refine ⟨fun _ _ => hS, ?_⟩
            intro a hA
            refine al hA 9 rfl (by kernel_rfl) (lo_call fn25 rfl (climb_at (climb_any (hg.mono0 hH) (clm p (i % qk) (ds.take k) k) (i / qk) _ (ds.drop k) hvl (hd.drop k) (Own.rd0 hO_t70 hH 1 rfl) (by omega) (by rw [hkd]; exact clm_quo hk hqk hqn hin)) hkd)) rfl (listed' := #[true, true, true, true, true, true, true, true, true, true, false, false, false, true, false, false]) rfl ?_
            rintro _ w ⟨rfl, hC⟩
            replace hH := HS.call0 hH hC
            clear hC
            refine ⟨fun _ h => absurd h (by decide), ?_⟩
            intro a hA
            refine apq hA 10 rfl (by kernel_rfl) (by intro c a d v w h; cases d <;> exact h) (fun w => (q_move rfl)) rfl (listed' := #[true, true, true, true, true, true, true, true, true, true, true, false, false, true, false, false]) rfl fun a hA => ?_
            refine apq hA 11 rfl (by kernel_rfl) (by intro c a d v w h; cases d <;> exact h) (fun w => (q_extract rfl rfl)) rfl (listed' := #[true, true, true, true, true, true, true, true, true, true, true, true, false, true, false, false]) rfl fun a hA => ?_
            refine apq hA 12 rfl (by kernel_rfl) (by intro c a d v w h; cases d <;> exact h) (fun w => (q_extract rfl rfl)) rfl (listed' := #[true, true, true, true, true, true, true, true, true, true, true, true, true, true, false, false]) rfl fun a hA => ?_
            refine al0 hA 14 rfl (by kernel_rfl) (lo_storeAm hH ti24 rfl rfl (by first | rfl | (simp; done) | (rw [List.length_map]; exact hvh) | exact hvh) (by first | rfl | (simp; done) | (rw [List.length_map]; exact hvh) | exact hvh) (one_B8 _)) (listed' := #[true, true, true, true, true, true, true, true, true, true, true, true, true, true, true, false]) rfl ?_
            clear hH; rintro _ w hH
            refine ⟨fun _ h => absurd h (by decide), ?_⟩
            refine apq hA 15 rfl (by kernel_rfl) (by intro c a d v w h; cases d <;> exact h) (fun w => (q_assign rfl)) rfl (listed' := #[true, true, true, true, true, true, true, true, true, true, true, true, true, true, true, true]) rfl fun a hA => ?_
            refine a_end (by kernel_rfl) ?_ _
            refine hK32 _ _ ?_
            clear hK32
            replace hA := hA.sub (E' := [(14, _), (13, _), (12, _), (10, _), (9, _), (8, _)]) ⟨rfl, rfl, rfl, rfl, rfl, rfl, trivial⟩
            refine wp_seq_k fun K34 hK34 => ?_
            refine wp_region_lit ?_
            refine sq hA (q_move rfl) rfl fun a hA => ?_
            refine sq hA (Runs.bt (q_eqlI (n := 0) rfl rfl) (by rfl)) rfl fun a hA => ?_
            refine sq hA (q_move rfl) rfl fun a hA => ?_
            refine gq hA rfl rfl (q_move rfl) rfl fun a hA => ?_
            refine gq hA rfl rfl (Runs.bt (q_eqlI (n := 0) rfl rfl) (by rfl)) rfl fun a hA => ?_
            refine sq hA (q_pick_t rfl rfl) rfl fun a hA => ?_
            refine sq hA (q_move rfl) rfl fun a hA => ?_
            refine gq hA rfl rfl (q_move rfl) rfl fun a hA => ?_
            refine gq hA rfl rfl (Runs.bt (q_eqlI (n := 0) rfl rfl) (by rfl)) rfl fun a hA => ?_
            refine sq hA (q_pick_t rfl rfl) rfl fun a hA => ?_
            refine sq hA (q_move rfl) rfl fun a hA => ?_
            refine gq hA rfl rfl (q_loadW hH 4 rfl Tryd.underlying24 rfl ti24 rfl (by first | rfl | (simp; done) | (rw [List.length_map]; exact hva) | exact hva)) rfl fun a hA => ?_
            refine gq hA rfl rfl (q_loadW hH 0 rfl Tryd.underlying24 rfl ti24 rfl (by first | rfl | (simp; done) | (rw [List.length_map]; exact hvh) | exact hvh)) rfl fun a hA => ?_
            refine gq hA rfl rfl (Runs.bt (q_eqlA8 (p := clm p i ds ds.length) (q := clm (clm p (i % qk) (ds.take k) k) (i / qk) (ds.drop k) (ds.length - k)) eqa24 rfl rfl rfl rfl (by first | exact hva | exact hvh) (by first | exact hva | exact hvh)) (by rw [hqk]; exact (clm_parts p i ds hk).symm)) rfl fun a hA => ?_
            refine sq hA (q_pick_t rfl rfl) rfl fun a hA => ?_
            refine sq hA (q_move rfl) rfl fun a hA => ?_
            refine gl hA rfl rfl (lo_call fn15 rfl (awake6_any (hg.mono0 hH))) rfl ?_
            rintro _ w ⟨rfl, hC⟩ a hA
            replace hH := HS.call0 hH hC
            clear hC
            refine sq hA (q_pick_t rfl rfl) rfl fun a hA => ?_
            refine sq hA (q_assign rfl) rfl fun a hA => ?_
            refine wpList_nil ?_
            refine hK34 _ _ ?_
            clear hK34
            replace hA := hA.sub (E' := [(8, _)]) ⟨rfl, trivial⟩
            refine wp_ret ?_
            refine post_ret hA (res_1 rfl hA rfl) ?_
            replace hH := hH.pick [] (Hs' := []) rfl
            exact ⟨_, rfl, rfl, hH⟩
        · skip
          refine oneL hA 13 rfl (lo_allocA hH ti24) rfl (listed' := #[true, true, true, true, true, true, true, true, false, false, false, false, false, true, false, false]) rfl ?_
          clear hH; rintro _ w ⟨b_t13, rfl, hH⟩
          have hS' := hH.pick [1, 2, 3, 4, 5] (Hs' := [_, _, _, _, _]) rfl
          replace hS := hS'; clear hS'
          refine ⟨fun _ _ => hS, ?_⟩
          intro a hA
          refine al hA 8 rfl (by kernel_rfl) (lo_call fn17 rfl (own6_any _ (ds.drop k) (hd.drop k) (hH.rd hO_t69) (by omega))) rfl (listed' := #[true, true, true, true, true, true, true, true, true, false, false, false, false, true, false, false]) rfl ?_
          rintro _ w ⟨v_t70, N_t70, rfl, hO_t70, hC⟩
          replace hH := HS.call0 hH hC
          clear hC
          have hS' := hH.pick [2, 3, 4, 5, 6] (Hs' := [_, _, _, _, _]) rfl
          replace hS := hS'; clear hS'
          refine ⟨fun _ _ => hS, ?_⟩
          intro a hA
          refine al hA 9 rfl (by kernel_rfl) (lo_call fn25 rfl (climb_at (climb_any (hg.mono0 hH) (clm p (i % qk) (ds.take k) k) (i / qk) _ (ds.drop k) hvl (hd.drop k) (Own.rd0 hO_t70 hH 0 rfl) (by omega) (by rw [hkd]; exact clm_quo hk hqk hqn hin)) hkd)) rfl (listed' := #[true, true, true, true, true, true, true, true, true, true, false, false, false, true, false, false]) rfl ?_
          rintro _ w ⟨rfl, hC⟩
          replace hH := HS.call0 hH hC
          clear hC
          refine ⟨fun _ h => absurd h (by decide), ?_⟩
          intro a hA
          refine apq hA 10 rfl (by kernel_rfl) (by intro c a d v w h; cases d <;> exact h) (fun w => (q_move rfl)) rfl (listed' := #[true, true, true, true, true, true, true, true, true, true, true, false, false, true, false, false]) rfl fun a hA => ?_
          refine apq hA 11 rfl (by kernel_rfl) (by intro c a d v w h; cases d <;> exact h) (fun w => (q_extract rfl rfl)) rfl (listed' := #[true, true, true, true, true, true, true, true, true, true, true, true, false, true, false, false]) rfl fun a hA => ?_
          refine apq hA 12 rfl (by kernel_rfl) (by intro c a d v w h; cases d <;> exact h) (fun w => (q_extract rfl rfl)) rfl (listed' := #[true, true, true, true, true, true, true, true, true, true, true, true, true, true, false, false]) rfl fun a hA => ?_
          replace hH := hH.pick [1, 0, 2, 3, 4, 5, 6] (Hs' := [_, _, _, _, _, _, _]) rfl
          refine al0 hA 14 rfl (by kernel_rfl) (lo_storeAm hH ti24 rfl rfl (by first | rfl | (simp; done) | (rw [List.length_map]; exact hvh) | exact hvh) (by first | rfl | (simp; done) | (rw [List.length_map]; exact hvh) | exact hvh) (one_B8 _)) (listed' := #[true, true, true, true, true, true, true, true, true, true, true, true, true, true, true, false]) rfl ?_
          clear hH; rintro _ w hH
          refine ⟨fun _ h => absurd h (by decide), ?_⟩
          refine apq hA 15 rfl (by kernel_rfl) (by intro c a d v w h; cases d <;> exact h) (fun w => (q_assign rfl)) rfl (listed' := #[true, true, true, true, true, true, true, true, true, true, true, true, true, true, true, true]) rfl fun a hA => ?_
          refine a_end (by kernel_rfl) ?_ _
          refine hK32 _ _ ?_
          clear hK32
          replace hA := hA.sub (E' := [(14, _), (13, _), (12, _), (10, _), (9, _), (8, _)]) ⟨rfl, rfl, rfl, rfl, rfl, rfl, trivial⟩
          refine wp_seq_k fun K35 hK35 => ?_
          refine wp_region_lit ?_
          refine sq hA (q_move rfl) rfl fun a hA => ?_
          refine sq hA (Runs.bt (q_eqlI (n := 0) rfl rfl) (by rfl)) rfl fun a hA => ?_
          refine sq hA (q_move rfl) rfl fun a hA => ?_
          refine gq hA rfl rfl (q_move rfl) rfl fun a hA => ?_
          refine gq hA rfl rfl (Runs.bt (q_eqlI (n := 0) rfl rfl) (by rfl)) rfl fun a hA => ?_
          refine sq hA (q_pick_t rfl rfl) rfl fun a hA => ?_
          refine sq hA (q_move rfl) rfl fun a hA => ?_
          refine gq hA rfl rfl (q_move rfl) rfl fun a hA => ?_
          refine gq hA rfl rfl (Runs.bt (q_eqlI (n := 0) rfl rfl) (by rfl)) rfl fun a hA => ?_
          refine sq hA (q_pick_t rfl rfl) rfl fun a hA => ?_
          refine sq hA (q_move rfl) rfl fun a hA => ?_
          refine gq hA rfl rfl (q_loadW hH 4 rfl Tryd.underlying24 rfl ti24 rfl (by first | rfl | (simp; done) | (rw [List.length_map]; exact hva) | exact hva)) rfl fun a hA => ?_
          refine gq hA rfl rfl (q_loadW hH 0 rfl Tryd.underlying24 rfl ti24 rfl (by first | rfl | (simp; done) | (rw [List.length_map]; exact hvh) | exact hvh)) rfl fun a hA => ?_
          refine gq hA rfl rfl (Runs.bt (q_eqlA8 (p := clm p i ds ds.length) (q := clm (clm p (i % qk) (ds.take k) k) (i / qk) (ds.drop k) (ds.length - k)) eqa24 rfl rfl rfl rfl (by first | exact hva | exact hvh) (by first | exact hva | exact hvh)) (by rw [hqk]; exact (clm_parts p i ds hk).symm)) rfl fun a hA => ?_
          refine sq hA (q_pick_t rfl rfl) rfl fun a hA => ?_
          refine sq hA (q_move rfl) rfl fun a hA => ?_
          refine gl hA rfl rfl (lo_call fn15 rfl (awake6_any (hg.mono0 hH))) rfl ?_
          rintro _ w ⟨rfl, hC⟩ a hA
          replace hH := HS.call0 hH hC
          clear hC
          refine sq hA (q_pick_t rfl rfl) rfl fun a hA => ?_
          refine sq hA (q_assign rfl) rfl fun a hA => ?_
          refine wpList_nil ?_
          refine hK35 _ _ ?_
          clear hK35
          replace hA := hA.sub (E' := [(8, _)]) ⟨rfl, trivial⟩
          refine wp_ret ?_
          refine post_ret hA (res_1 rfl hA rfl) ?_
          replace hH := hH.pick [] (Hs' := []) rfl
          exact ⟨_, rfl, rfl, hH⟩
      · skip
        refine oneL hA 13 rfl (lo_allocA hH ti24) rfl (listed' := #[true, true, true, true, true, true, true, true, true, false, false, false, false, true, false, false]) rfl ?_
        clear hH; rintro _ w ⟨b_t11, rfl, hH⟩
        have hS' := hH.pick [2, 3, 4] (Hs' := [_, _, _]) rfl
        replace hS := hS'; clear hS'
        refine ⟨fun _ _ => hS, ?_⟩
        intro a hA
        refine al hA 9 rfl (by kernel_rfl) (lo_call fn25 rfl (climb_at (climb_any (hg.mono0 hH) p (i % qk) _ (ds.take k) hp (hd.take k) (Own.rd0 hO_t57 hH 1 rfl) (by omega) (by rw [hkl, ← hqk]; exact Nat.mod_lt _ hqp)) hkl)) rfl (listed' := #[true, true, true, true, true, true, true, true, true, true, false, false, false, true, false, false]) rfl ?_
        rintro _ w ⟨rfl, hC⟩
        replace hH := HS.call0 hH hC
        clear hC
        refine ⟨fun _ h => absurd h (by decide), ?_⟩
        intro a hA
        refine apq hA 10 rfl (by kernel_rfl) (by intro c a d v w h; cases d <;> exact h) (fun w => (q_move rfl)) rfl (listed' := #[true, true, true, true, true, true, true, true, true, true, true, false, false, true, false, false]) rfl fun a hA => ?_
        refine apq hA 11 rfl (by kernel_rfl) (by intro c a d v w h; cases d <;> exact h) (fun w => (q_extract rfl rfl)) rfl (listed' := #[true, true, true, true, true, true, true, true, true, true, true, true, false, true, false, false]) rfl fun a hA => ?_
        refine apq hA 12 rfl (by kernel_rfl) (by intro c a d v w h; cases d <;> exact h) (fun w => (q_extract rfl rfl)) rfl (listed' := #[true, true, true, true, true, true, true, true, true, true, true, true, true, true, false, false]) rfl fun a hA => ?_
        refine al0 hA 14 rfl (by kernel_rfl) (lo_storeAm hH ti24 rfl rfl (by first | rfl | (simp; done) | (rw [List.length_map]; exact hvl) | exact hvl) (by first | rfl | (simp; done) | (rw [List.length_map]; exact hvl) | exact hvl) (one_B8 _)) (listed' := #[true, true, true, true, true, true, true, true, true, true, true, true, true, true, true, false]) rfl ?_
        clear hH; rintro _ w hH
        refine ⟨fun _ h => absurd h (by decide), ?_⟩
        refine apq hA 15 rfl (by kernel_rfl) (by intro c a d v w h; cases d <;> exact h) (fun w => (q_assign rfl)) rfl (listed' := #[true, true, true, true, true, true, true, true, true, true, true, true, true, true, true, true]) rfl fun a hA => ?_
        refine a_end (by kernel_rfl) ?_ _
        refine hK31 _ _ ?_
        clear hK31
        replace hA := hA.sub (E' := [(12, _), (11, _), (10, _), (9, _), (8, _), (1, _), (2, _), (3, _)]) ⟨rfl, rfl, rfl, rfl, rfl, rfl, rfl, rfl, trivial⟩
        refine wp_seq_k fun K36 hK36 => ?_
        refine any_go mixed (fun j => !(Nat.beq j 9 || Nat.beq j 14)) hH ?_
        clear hH; intro w hH
        have hS := hH
        change wpK _ _ _ _ _ _ 16 #[false, false, false, false, false, false, false, false, false, false, false, false, false, false, false, false] _ _
        refine aq hA 0 rfl (by kernel_rfl) (by intro c a d v w h; cases d <;> exact h) hS (fun w hH => (q_loadW hH 0 rfl Tryd.underlying24 rfl ti24 rfl (by first | rfl | (simp; done) | (rw [List.length_map]; exact hvl) | exact hvl))) rfl (listed' := #[true, false, false, false, false, false, false, false, false, false, false, false, false, false, false, false]) rfl fun a hA => ?_
        refine apq hA 1 rfl (by kernel_rfl) (by intro c a d v w h; cases d <;> exact h) (fun w => (q_move rfl)) rfl (listed' := #[true, true, false, false, false, false, false, false, false, false, false, false, false, false, false, false]) rfl fun a hA => ?_
        refine apq hA 2 rfl (by kernel_rfl) (by intro c a d v w h; cases d <;> exact h) (fun w => (q_move rfl)) rfl (listed' := #[true, true, true, false, false, false, false, false, false, false, false, false, false, false, false, false]) rfl fun a hA => ?_
        refine apq hA 3 rfl (by kernel_rfl) (by intro c a d v w h; cases d <;> exact h) (fun w => (q_shlI (n := k) (2 ^ k) rfl rfl (by omega) rfl (by omega))) rfl (listed' := #[true, true, true, true, false, false, false, false, false, false, false, false, false, false, false, false]) rfl fun a hA => ?_
        rw [hck] at hA
        refine apq hA 4 rfl (by kernel_rfl) (by intro c a d v w h; cases d <;> exact h) (fun w => (q_quoI rfl rfl (by omega))) rfl (listed' := #[true, true, true, true, true, false, false, false, false, false, false, false, false, false, false, false]) rfl fun a hA => ?_
        rw [show ((i : Nat) : Int) / ((qk : Nat) : Int) = ((i / qk : Nat) : Int) from (Int.natCast_ediv i qk).symm] at hA
        refine apq hA 5 rfl (by kernel_rfl) (by intro c a d v w h; cases d <;> exact h) (fun w => (q_move rfl)) rfl (listed' := #[true, true, true, true, true, true, false, false, false, false, false, false, false, false, false, false]) rfl fun a hA => ?_
        refine apq hA 6 rfl (by kernel_rfl) (by intro c a d v w h; cases d <;> exact h) (fun w => (q_move rfl)) rfl (listed' := #[true, true, true, true, true, true, true, false, false, false, false, false, false, false, false, false]) rfl fun a hA => ?_
        obtain ⟨v_t69, hv_t69, hO_t69⟩ := Rd.cut hr (k) (ds.length) (by first | omega | (simp; omega) | (simp [*]; omega)) (by first | omega | (simp; omega) | (simp [*]; omega))
        replace hO_t69 : RdD [] w0 v_t69 (ds.drop k) := RdD.dropOf hd hk hO_t69
        refine apq hA 7 rfl (by kernel_rfl) (by intro c a d v w h; cases d <;> exact h) (fun w => (q_slice Tryd.underlying22 ti24 rfl (k) (ds.length) hv_t69 (Rd.shp hr) rfl rfl (rfl) (by first | rfl | (simp; done) | omega) (by first | omega | (simp; omega) | (simp [*]; omega)) (by first | omega | (simp; omega) | (simp [*]; omega)))) rfl (listed' := #[true, true, true, true, true, true, true, true, false, false, false, false, false, false, false, false]) rfl fun a hA => ?_
        refine a_ch2 (i := 8) (j := 13) (by kernel_rfl) ?_ ?_
        · skip
          refine oneL hA 8 rfl (lo_call fn17 rfl (own6_any _ (ds.drop k) (hd.drop k) (hH.rd hO_t69) (by omega))) rfl (listed' := #[true, true, true, true, true, true, true, true, true, false, false, false, false, false, false, false]) rfl ?_
          rintro _ w ⟨v_t70, N_t70, rfl, hO_t70, hC⟩
          replace hH := HS.call0 hH hC
          clear hC
          have hS' := hH.pick [1, 2, 3, 4, 5] (Hs' := [_, _, _, _, _]) rfl
          replace hS := hS'; clear hS'
          refine ⟨fun _ _ => hS, ?_⟩
          intro a hA
          refine a_ch2 (i := 9) (j := 13) (by kernel_rfl) ?_ ?_
          · skip
            refine oneL hA 9 rfl (lo_call fn25 rfl (climb_at (climb_any (hg.mono0 hH) (clm p (i % qk) (ds.take k) k) (i / qk) _ (ds.drop k) hvl (hd.drop k) (Own.rd0 hO_t70 hH 0 rfl) (by omega) (by rw [hkd]; exact clm_quo hk hqk hqn hin)) hkd)) rfl (listed' := #[true, true, true, true, true, true, true, true, true, true, false, false, false, false, false, false]) rfl ?_
            rintro _ w ⟨rfl, hC⟩
            replace hH := HS.call0 hH hC
            clear hC
            refine ⟨fun _ h => absurd h (by decide), ?_⟩
            intro a hA
            refine apq hA 10 rfl (by kernel_rfl) (by intro c a d v w h; cases d <;> exact h) (fun w => (q_move rfl)) rfl (listed' := #[true, true, true, true, true, true, true, true, true, true, true, false, false, false, false, false]) rfl fun a hA => ?_
            refine apq hA 11 rfl (by kernel_rfl) (by intro c a d v w h; cases d <;> exact h) (fun w => (q_extract rfl rfl)) rfl (listed' := #[true, true, true, true, true, true, true, true, true, true, true, true, false, false, false, false]) rfl fun a hA => ?_
            refine apq hA 12 rfl (by kernel_rfl) (by intro c a d v w h; cases d <;> exact h) (fun w => (q_extract rfl rfl)) rfl (listed' := #[true, true, true, true, true, true, true, true, true, true, true, true, true, false, false, false]) rfl fun a hA => ?_
            refine al hA 13 rfl (by kernel_rfl) (lo_allocA hH ti24) rfl (listed' := #[true, true, true, true, true, true, true, true, true, true, true, true, true, true, false, false]) rfl ?_
            clear hH; rintro _ w ⟨b_t13, rfl, hH⟩
            have hS' := hH.pick [2, 3, 4, 5, 6] (Hs' := [_, _, _, _, _]) rfl
            replace hS := hS'; clear hS'
            refine ⟨fun _ _ => hS, ?_⟩
            intro a hA
            refine al0 hA 14 rfl (by kernel_rfl) (lo_storeAm hH ti24 rfl rfl (by first | rfl | (simp; done) | (rw [List.length_map]; exact hvh) | exact hvh) (by first | rfl | (simp; done) | (rw [List.length_map]; exact hvh) | exact hvh) (one_B8 _)) (listed' := #[true, true, true, true, true, true, true, true, true, true, true, true, true, true, true, false]) rfl ?_
            clear hH; rintro _ w hH
            refine ⟨fun _ h => absurd h (by decide), ?_⟩
            refine apq hA 15 rfl (by kernel_rfl) (by intro c a d v w h; cases d <;> exact h) (fun w => (q_assign rfl)) rfl (listed' := #[true, true, true, true, true, true, true, true, true, true, true, true, true, true, true, true]) rfl fun a hA => ?_
            refine a_end (by kernel_rfl) ?_ _
            refine hK36 _ _ ?_
            clear hK36
            replace hA := hA.sub (E' := [(14, _), (13, _), (12, _), (10, _), (9, _), (8, _)]) ⟨rfl, rfl, rfl, rfl, rfl, rfl, trivial⟩
            refine wp_seq_k fun K37 hK37 => ?_
            refine wp_region_lit ?_
            refine sq hA (q_move rfl) rfl fun a hA => ?_
            refine sq hA (Runs.bt (q_eqlI (n := 0) rfl rfl) (by rfl)) rfl fun a hA => ?_
            refine sq hA (q_move rfl) rfl fun a hA => ?_
            refine gq hA rfl rfl (q_move rfl) rfl fun a hA => ?_
            refine gq hA rfl rfl (Runs.bt (q_eqlI (n := 0) rfl rfl) (by rfl)) rfl fun a hA => ?_
            refine sq hA (q_pick_t rfl rfl) rfl fun a hA => ?_
            refine sq hA (q_move rfl) rfl fun a hA => ?_
            refine gq hA rfl rfl (q_move rfl) rfl fun a hA => ?_
            refine gq hA rfl rfl (Runs.bt (q_eqlI (n := 0) rfl rfl) (by rfl)) rfl fun a hA => ?_
            refine sq hA (q_pick_t rfl rfl) rfl fun a hA => ?_
            refine sq hA (q_move rfl) rfl fun a hA => ?_
            refine gq hA rfl rfl (q_loadW hH 4 rfl Tryd.underlying24 rfl ti24 rfl (by first | rfl | (simp; done) | (rw [List.length_map]; exact hva) | exact hva)) rfl fun a hA => ?_
            refine gq hA rfl rfl (q_loadW hH 0 rfl Tryd.underlying24 rfl ti24 rfl (by first | rfl | (simp; done) | (rw [List.length_map]; exact hvh) | exact hvh)) rfl fun a hA => ?_
            refine gq hA rfl rfl (Runs.bt (q_eqlA8 (p := clm p i ds ds.length) (q := clm (clm p (i % qk) (ds.take k) k) (i / qk) (ds.drop k) (ds.length - k)) eqa24 rfl rfl rfl rfl (by first | exact hva | exact hvh) (by first | exact hva | exact hvh)) (by rw [hqk]; exact (clm_parts p i ds hk).symm)) rfl fun a hA => ?_
            refine sq hA (q_pick_t rfl rfl) rfl fun a hA => ?_
            refine sq hA (q_move rfl) rfl fun a hA => ?_
            refine gl hA rfl rfl (lo_call fn15 rfl (awake6_any (hg.mono0 hH))) rfl ?_
            rintro _ w ⟨rfl, hC⟩ a hA
            replace hH := HS.call0 hH hC
            clear hC
            refine sq hA (q_pick_t rfl rfl) rfl fun a hA => ?_
            refine sq hA (q_assign rfl) rfl fun a hA => ?_
            refine wpList_nil ?_
            refine hK37 _ _ ?_
            clear hK37
            replace hA := hA.sub (E' := [(8, _)]) ⟨rfl, trivial⟩
            refine wp_ret ?_
            refine post_ret hA (res_1 rfl hA rfl) ?_
            replace hH := hH.pick [] (Hs' := []) rfl
            exact ⟨_, rfl, rfl, hH⟩
          · skip
            refine oneL hA 13 rfl (lo_allocA hH ti24) rfl (listed' := #[true, true, true, true, true, true, true, true, true, false, false, false, false, true, false, false]) rfl ?_
            clear hH; rintro _ w ⟨b_t13, rfl, hH⟩
            have hS' := hH.pick [2, 3, 4, 5, 6] (Hs' := [_, _, _, _, _]) rfl
            replace hS := hS'; clear hS'
            refine ⟨fun _ _ => hS, ?_⟩
            intro a hA
            refine al hA 9 rfl (by kernel_rfl) (lo_call fn25 rfl (climb_at (climb_any (hg.mono0 hH) (clm p (i % qk) (ds.take k) k) (i / qk) _ (ds.drop k) hvl (hd.drop k) (Own.rd0 hO_t70 hH 1 rfl) (by omega) (by rw [hkd]; exact clm_quo hk hqk hqn hin)) hkd)) rfl (listed' := #[true, true, true, true, true, true, true, true, true, true, false, false, false, true, false, false]) rfl ?_
            rintro _ w ⟨rfl, hC⟩
            replace hH := HS.call0 hH hC
            clear hC
            refine ⟨fun _ h => absurd h (by decide), ?_⟩
            intro a hA
            refine apq hA 10 rfl (by kernel_rfl) (by intro c a d v w h; cases d <;> exact h) (fun w => (q_move rfl)) rfl (listed' := #[true, true, true, true, true, true, true, true, true, true, true, false, false, true, false, false]) rfl fun a hA => ?_
            refine apq hA 11 rfl (by kernel_rfl) (by intro c a d v w h; cases d <;> exact h) (fun w => (q_extract rfl rfl)) rfl (listed' := #[true, true, true, true, true, true, true, true, true, true, true, true, false, true, false, false]) rfl fun a hA => ?_
            refine apq hA 12 rfl (by kernel_rfl) (by intro c a d v w h; cases d <;> exact h) (fun w => (q_extract rfl rfl)) rfl (listed' := #[true, true, true, true, true, true, true, true, true, true, true, true, true, true, false, false]) rfl fun a hA => ?_
            refine al0 hA 14 rfl (by kernel_rfl) (lo_storeAm hH ti24 rfl rfl (by first | rfl | (simp; done) | (rw [List.length_map]; exact hvh) | exact hvh) (by first | rfl | (simp; done) | (rw [List.length_map]; exact hvh) | exact hvh) (one_B8 _)) (listed' := #[true, true, true, true, true, true, true, true, true, true, true, true, true, true, true, false]) rfl ?_
            clear hH; rintro _ w hH
            refine ⟨fun _ h => absurd h (by decide), ?_⟩
            refine apq hA 15 rfl (by kernel_rfl) (by intro c a d v w h; cases d <;> exact h) (fun w => (q_assign rfl)) rfl (listed' := #[true, true, true, true, true, true, true, true, true, true, true, true, true, true, true, true]) rfl fun a hA => ?_
            refine a_end (by kernel_rfl) ?_ _
            refine hK36 _ _ ?_
            clear hK36
            replace hA := hA.sub (E' := [(14, _), (13, _), (12, _), (10, _), (9, _), (8, _)]) ⟨rfl, rfl, rfl, rfl, rfl, rfl, trivial⟩
            refine wp_seq_k fun K38 hK38 => ?_
            refine wp_region_lit ?_
            refine sq hA (q_move rfl) rfl fun a hA => ?_
            refine sq hA (Runs.bt (q_eqlI (n := 0) rfl rfl) (by rfl)) rfl fun a hA => ?_
            refine sq hA (q_move rfl) rfl fun a hA => ?_
            refine gq hA rfl rfl (q_move rfl) rfl fun a hA => ?_
            refine gq hA rfl rfl (Runs.bt (q_eqlI (n := 0) rfl rfl) (by rfl)) rfl fun a hA => ?_
            refine sq hA (q_pick_t rfl rfl) rfl fun a hA => ?_
            refine sq hA (q_move rfl) rfl fun a hA => ?_
            refine gq hA rfl rfl (q_move rfl) rfl fun a hA => ?_
            refine gq hA rfl rfl (Runs.bt (q_eqlI (n := 0) rfl rfl) (by rfl)) rfl fun a hA => ?_
            refine sq hA (q_pick_t rfl rfl) rfl fun a hA => ?_
            refine sq hA (q_move rfl) rfl fun a hA => ?_
            refine gq hA rfl rfl (q_loadW hH 4 rfl Tryd.underlying24 rfl ti24 rfl (by first | rfl | (simp; done) | (rw [List.length_map]; exact hva) | exact hva)) rfl fun a hA => ?_
            refine gq hA rfl rfl (q_loadW hH 0 rfl Tryd.underlying24 rfl ti24 rfl (by first | rfl | (simp; done) | (rw [List.length_map]; exact hvh) | exact hvh)) rfl fun a hA => ?_
            refine gq hA rfl rfl (Runs.bt (q_eqlA8 (p := clm p i ds ds.length) (q := clm (clm p (i % qk) (ds.take k) k) (i / qk) (ds.drop k) (ds.length - k)) eqa24 rfl rfl rfl rfl (by first | exact hva | exact hvh) (by first | exact hva | exact hvh)) (by rw [hqk]; exact (clm_parts p i ds hk).symm)) rfl fun a hA => ?_
            refine sq hA (q_pick_t rfl rfl) rfl fun a hA => ?_
            refine sq hA (q_move rfl) rfl fun a hA => ?_
            refine gl hA rfl rfl (lo_call fn15 rfl (awake6_any (hg.mono0 hH))) rfl ?_
            rintro _ w ⟨rfl, hC⟩ a hA
            replace hH := HS.call0 hH hC
            clear hC
            refine sq hA (q_pick_t rfl rfl) rfl fun a hA => ?_
            refine sq hA (q_assign rfl) rfl fun a hA => ?_
            refine wpList_nil ?_
            refine hK38 _ _ ?_
            clear hK38
            replace hA := hA.sub (E' := [(8, _)]) ⟨rfl, trivial⟩
            refine wp_ret ?_
            refine post_ret hA (res_1 rfl hA rfl) ?_
            replace hH := hH.pick [] (Hs' := []) rfl
            exact ⟨_, rfl, rfl, hH⟩
        · skip
          refine oneL hA 13 rfl (lo_allocA hH ti24) rfl (listed' := #[true, true, true, true, true, true, true, true, false, false, false, false, false, true, false, false]) rfl ?_
          clear hH; rintro _ w ⟨b_t13, rfl, hH⟩
          have hS' := hH.pick [1, 2, 3, 4, 5] (Hs' := [_, _, _, _, _]) rfl
          replace hS := hS'; clear hS'
          refine ⟨fun _ _ => hS, ?_⟩
          intro a hA
          refine al hA 8 rfl (by kernel_rfl) (lo_call fn17 rfl (own6_any _ (ds.drop k) (hd.drop k) (hH.rd hO_t69) (by omega))) rfl (listed' := #[true, true, true, true, true, true, true, true, true, false, false, false, false, true, false, false]) rfl ?_
          rintro _ w ⟨v_t70, N_t70, rfl, hO_t70, hC⟩
          replace hH := HS.call0 hH hC
          clear hC
          have hS' := hH.pick [2, 3, 4, 5, 6] (Hs' := [_, _, _, _, _]) rfl
          replace hS := hS'; clear hS'
          refine ⟨fun _ _ => hS, ?_⟩
          intro a hA
          refine al hA 9 rfl (by kernel_rfl) (lo_call fn25 rfl (climb_at (climb_any (hg.mono0 hH) (clm p (i % qk) (ds.take k) k) (i / qk) _ (ds.drop k) hvl (hd.drop k) (Own.rd0 hO_t70 hH 0 rfl) (by omega) (by rw [hkd]; exact clm_quo hk hqk hqn hin)) hkd)) rfl (listed' := #[true, true, true, true, true, true, true, true, true, true, false, false, false, true, false, false]) rfl ?_
          rintro _ w ⟨rfl, hC⟩
          replace hH := HS.call0 hH hC
          clear hC
          refine ⟨fun _ h => absurd h (by decide), ?_⟩
          intro a hA
          refine apq hA 10 rfl (by kernel_rfl) (by intro c a d v w h; cases d <;> exact h) (fun w => (q_move rfl)) rfl (listed' := #[true, true, true, true, true, true, true, true, true, true, true, false, false, true, false, false]) rfl fun a hA => ?_
          refine apq hA 11 rfl (by kernel_rfl) (by intro c a d v w h; cases d <;> exact h) (fun w => (q_extract rfl rfl)) rfl (listed' := #[true, true, true, true, true, true, true, true, true, true, true, true, false, true, false, false]) rfl fun a hA => ?_
          refine apq hA 12 rfl (by kernel_rfl) (by intro c a d v w h; cases d <;> exact h) (fun w => (q_extract rfl rfl)) rfl (listed' := #[true, true, true, true, true, true, true, true, true, true, true, true, true, true, false, false]) rfl fun a hA => ?_
          replace hH := hH.pick [1, 0, 2, 3, 4, 5, 6] (Hs' := [_, _, _, _, _, _, _]) rfl
          refine al0 hA 14 rfl (by kernel_rfl) (lo_storeAm hH ti24 rfl rfl (by first | rfl | (simp; done) | (rw [List.length_map]; exact hvh) | exact hvh) (by first | rfl | (simp; done) | (rw [List.length_map]; exact hvh) | exact hvh) (one_B8 _)) (listed' := #[true, true, true, true, true, true, true, true, true, true, true, true, true, true, true, false]) rfl ?_
          clear hH; rintro _ w hH
          refine ⟨fun _ h => absurd h (by decide), ?_⟩
          refine apq hA 15 rfl (by kernel_rfl) (by intro c a d v w h; cases d <;> exact h) (fun w => (q_assign rfl)) rfl (listed' := #[true, true, true, true, true, true, true, true, true, true, true, true, true, true, true, true]) rfl fun a hA => ?_
          refine a_end (by kernel_rfl) ?_ _
          refine hK36 _ _ ?_
          clear hK36
          replace hA := hA.sub (E' := [(14, _), (13, _), (12, _), (10, _), (9, _), (8, _)]) ⟨rfl, rfl, rfl, rfl, rfl, rfl, trivial⟩
          refine wp_seq_k fun K39 hK39 => ?_
          refine wp_region_lit ?_
          refine sq hA (q_move rfl) rfl fun a hA => ?_
          refine sq hA (Runs.bt (q_eqlI (n := 0) rfl rfl) (by rfl)) rfl fun a hA => ?_
          refine sq hA (q_move rfl) rfl fun a hA => ?_
          refine gq hA rfl rfl (q_move rfl) rfl fun a hA => ?_
          refine gq hA rfl rfl (Runs.bt (q_eqlI (n := 0) rfl rfl) (by rfl)) rfl fun a hA => ?_
          refine sq hA (q_pick_t rfl rfl) rfl fun a hA => ?_
          refine sq hA (q_move rfl) rfl fun a hA => ?_
          refine gq hA rfl rfl (q_move rfl) rfl fun a hA => ?_
          refine gq hA rfl rfl (Runs.bt (q_eqlI (n := 0) rfl rfl) (by rfl)) rfl fun a hA => ?_
          refine sq hA (q_pick_t rfl rfl) rfl fun a hA => ?_
          refine sq hA (q_move rfl) rfl fun a hA => ?_
          refine gq hA rfl rfl (q_loadW hH 4 rfl Tryd.underlying24 rfl ti24 rfl (by first | rfl | (simp; done) | (rw [List.length_map]; exact hva) | exact hva)) rfl fun a hA => ?_
          refine gq hA rfl rfl (q_loadW hH 0 rfl Tryd.underlying24 rfl ti24 rfl (by first | rfl | (simp; done) | (rw [List.length_map]; exact hvh) | exact hvh)) rfl fun a hA => ?_
          refine gq hA rfl rfl (Runs.bt (q_eqlA8 (p := clm p i ds ds.length) (q := clm (clm p (i % qk) (ds.take k) k) (i / qk) (ds.drop k) (ds.length - k)) eqa24 rfl rfl rfl rfl (by first | exact hva | exact hvh) (by first | exact hva | exact hvh)) (by rw [hqk]; exact (clm_parts p i ds hk).symm)) rfl fun a hA => ?_
          refine sq hA (q_pick_t rfl rfl) rfl fun a hA => ?_
          refine sq hA (q_move rfl) rfl fun a hA => ?_
          refine gl hA rfl rfl (lo_call fn15 rfl (awake6_any (hg.mono0 hH))) rfl ?_
          rintro _ w ⟨rfl, hC⟩ a hA
          replace hH := HS.call0 hH hC
          clear hC
          refine sq hA (q_pick_t rfl rfl) rfl fun a hA => ?_
          refine sq hA (q_assign rfl) rfl fun a hA => ?_
          refine wpList_nil ?_
          refine hK39 _ _ ?_
          clear hK39
          replace hA := hA.sub (E' := [(8, _)]) ⟨rfl, trivial⟩
          refine wp_ret ?_
          refine post_ret hA (res_1 rfl hA rfl) ?_
          replace hH := hH.pick [] (Hs' := []) rfl
          exact ⟨_, rfl, rfl, hH⟩
    · skip
      refine oneL hA 13 rfl (lo_allocA hH ti24) rfl (listed' := #[true, true, true, true, true, true, true, true, false, false, false, false, false, true, false, false]) rfl ?_
      clear hH; rintro _ w ⟨b_t11, rfl, hH⟩
      have hS' := hH.pick [1, 2, 3] (Hs' := [_, _, _]) rfl
      replace hS := hS'; clear hS'
      refine ⟨fun _ _ => hS, ?_⟩
      intro a hA
      refine al hA 8 rfl (by kernel_rfl) (lo_call fn17 rfl (own6_any _ (ds.take k) (hd.take k) (hH.rd hO_t56) (by omega))) rfl (listed' := #[true, true, true, true, true, true, true, true, true, false, false, false, false, true, false, false]) rfl ?_
      rintro _ w ⟨v_t57, N_t57, rfl, hO_t57, hC⟩
      replace hH := HS.call0 hH hC
      clear hC
      have hS' := hH.pick [2, 3, 4] (Hs' := [_, _, _]) rfl
      replace hS := hS'; clear hS'
      refine ⟨fun _ _ => hS, ?_⟩
      intro a hA
      refine al hA 9 rfl (by kernel_rfl) (lo_call fn25 rfl (climb_at (climb_any (hg.mono0 hH) p (i % qk) _ (ds.take k) hp (hd.take k) (Own.rd0 hO_t57 hH 0 rfl) (by omega) (by rw [hkl, ← hqk]; exact Nat.mod_lt _ hqp)) hkl)) rfl (listed' := #[true, true, true, true, true, true, true, true, true, true, false, false, false, true, false, false]) rfl ?_
      rintro _ w ⟨rfl, hC⟩
      replace hH := HS.call0 hH hC
      clear hC
      refine ⟨fun _ h => absurd h (by decide), ?_⟩
      intro a hA
      refine apq hA 10 rfl (by kernel_rfl) (by intro c a d v w h; cases d <;> exact h) (fun w => (q_move rfl)) rfl (listed' := #[true, true, true, true, true, true, true, true, true, true, true, false, false, true, false, false]) rfl fun a hA => ?_
      refine apq hA 11 rfl (by kernel_rfl) (by intro c a d v w h; cases d <;> exact h) (fun w => (q_extract rfl rfl)) rfl (listed' := #[true, true, true, true, true, true, true, true, true, true, true, true, false, true, false, false]) rfl fun a hA => ?_
      refine apq hA 12 rfl (by kernel_rfl) (by intro c a d v w h; cases d <;> exact h) (fun w => (q_extract rfl rfl)) rfl (listed' := #[true, true, true, true, true, true, true, true, true, true, true, true, true, true, false, false]) rfl fun a hA => ?_
      replace hH := hH.pick [1, 0, 2, 3, 4] (Hs' := [_, _, _, _, _]) rfl
      refine al0 hA 14 rfl (by kernel_rfl) (lo_storeAm hH ti24 rfl rfl (by first | rfl | (simp; done) | (rw [List.length_map]; exact hvl) | exact hvl) (by first | rfl | (simp; done) | (rw [List.length_map]; exact hvl) | exact hvl) (one_B8 _)) (listed' := #[true, true, true, true, true, true, true, true, true, true, true, true, true, true, true, false]) rfl ?_
      clear hH; rintro _ w hH
      refine ⟨fun _ h => absurd h (by decide), ?_⟩
      refine apq hA 15 rfl (by kernel_rfl) (by intro c a d v w h; cases d <;> exact h) (fun w => (q_assign rfl)) rfl (listed' := #[true, true, true, true, true, true, true, true, true, true, true, true, true, true, true, true]) rfl fun a hA => ?_
      refine a_end (by kernel_rfl) ?_ _
      refine hK31 _ _ ?_
      clear hK31
      replace hA := hA.sub (E' := [(12, _), (11, _), (10, _), (9, _), (8, _), (1, _), (2, _), (3, _)]) ⟨rfl, rfl, rfl, rfl, rfl, rfl, rfl, rfl, trivial⟩
      refine wp_seq_k fun K40 hK40 => ?_
      refine any_go mixed (fun j => !(Nat.beq j 9 || Nat.beq j 14)) hH ?_
      clear hH; intro w hH
      have hS := hH
      change wpK _ _ _ _ _ _ 16 #[false, false, false, false, false, false, false, false, false, false, false, false, false, false, false, false] _ _
      refine aq hA 0 rfl (by kernel_rfl) (by intro c a d v w h; cases d <;> exact h) hS (fun w hH => (q_loadW hH 0 rfl Tryd.underlying24 rfl ti24 rfl (by first | rfl | (simp; done) | (rw [List.length_map]; exact hvl) | exact hvl))) rfl (listed' := #[true, false, false, false, false, false, false, false, false, false, false, false, false, false, false, false]) rfl fun a hA => ?_
      refine apq hA 1 rfl (by kernel_rfl) (by intro c a d v w h; cases d <;> exact h) (fun w => (q_move rfl)) rfl (listed' := #[true, true, false, false, false, false, false, false, false, false, false, false, false, false, false, false]) rfl fun a hA => ?_
      refine apq hA 2 rfl (by kernel_rfl) (by intro c a d v w h; cases d <;> exact h) (fun w => (q_move rfl)) rfl (listed' := #[true, true, true, false, false, false, false, false, false, false, false, false, false, false, false, false]) rfl fun a hA => ?_
      refine apq hA 3 rfl (by kernel_rfl) (by intro c a d v w h; cases d <;> exact h) (fun w => (q_shlI (n := k) (2 ^ k) rfl rfl (by omega) rfl (by omega))) rfl (listed' := #[true, true, true, true, false, false, false, false, false, false, false, false, false, false, false, false]) rfl fun a hA => ?_
      rw [hck] at hA
      refine apq hA 4 rfl (by kernel_rfl) (by intro c a d v w h; cases d <;> exact h) (fun w => (q_quoI rfl rfl (by omega))) rfl (listed' := #[true, true, true, true, true, false, false, false, false, false, false, false, false, false, false, false]) rfl fun a hA => ?_
      rw [show ((i : Nat) : Int) / ((qk : Nat) : Int) = ((i / qk : Nat) : Int) from (Int.natCast_ediv i qk).symm] at hA
      refine apq hA 5 rfl (by kernel_rfl) (by intro c a d v w h; cases d <;> exact h) (fun w => (q_move rfl)) rfl (listed' := #[true, true, true, true, true, true, false, false, false, false, false, false, false, false, false, false]) rfl fun a hA => ?_
      refine apq hA 6 rfl (by kernel_rfl) (by intro c a d v w h; cases d <;> exact h) (fun w => (q_move rfl)) rfl (listed' := #[true, true, true, true, true, true, true, false, false, false, false, false, false, false, false, false]) rfl fun a hA => ?_
      obtain ⟨v_t69, hv_t69, hO_t69⟩ := Rd.cut hr (k) (ds.length) (by first | omega | (simp; omega) | (simp [*]; omega)) (by first | omega | (simp; omega) | (simp [*]; omega))
      replace hO_t69 : RdD [] w0 v_t69 (ds.drop k) := RdD.dropOf hd hk hO_t69
      refine apq hA 7 rfl (by kernel_rfl) (by intro c a d v w h; cases d <;> exact h) (fun w => (q_slice Tryd.underlying22 ti24 rfl (k) (ds.length) hv_t69 (Rd.shp hr) rfl rfl (rfl) (by first | rfl | (simp; done) | omega) (by first | omega | (simp; omega) | (simp [*]; omega)) (by first | omega | (simp; omega) | (simp [*]; omega)))) rfl (listed' := #[true, true, true, true, true, true, true, true, false, false, false, false, false, false, false, false]) rfl fun a hA => ?_
      refine a_ch2 (i := 8) (j := 13) (by kernel_rfl) ?_ ?_
      · skip
        refine oneL hA 8 rfl (lo_call fn17 rfl (own6_any _ (ds.drop k) (hd.drop k) (hH.rd hO_t69) (by omega))) rfl (listed' := #[true, true, true, true, true, true, true, true, true, false, false, false, false, false, false, false]) rfl ?_
        rintro _ w ⟨v_t70, N_t70, rfl, hO_t70, hC⟩
        replace hH := HS.call0 hH hC
        clear hC
        have hS' := hH.pick [1, 2, 3, 4, 5] (Hs' := [_, _, _, _, _]) rfl
        replace hS := hS'; clear hS'
        refine ⟨fun _ _ => hS, ?_⟩
        intro a hA
        refine a_ch2 (i := 9) (j := 13) (by kernel_rfl) ?_ ?_
        · skip
          refine oneL hA 9 rfl (lo_call fn25 rfl (climb_at (climb_any (hg.mono0 hH) (clm p (i % qk) (ds.take k) k) (i / qk) _ (ds.drop k) hvl (hd.drop k) (Own.rd0 hO_t70 hH 0 rfl) (by omega) (by rw [hkd]; exact clm_quo hk hqk hqn hin)) hkd)) rfl (listed' := #[true, true, true, true, true, true, true, true, true, true, false, false, false, false, false, false]) rfl ?_
          rintro _ w ⟨rfl, hC⟩
          replace hH := HS.call0 hH hC
          clear hC
          refine ⟨fun _ h => absurd h (by decide), ?_⟩
          intro a hA
          refine apq hA 10 rfl (by kernel_rfl) (by intro c a d v w h; cases d <;> exact h) (fun w => (q_move rfl)) rfl (listed' := #[true, true, true, true, true, true, true, true, true, true, true, false, false, false, false, false]) rfl fun a hA => ?_
          refine apq hA 11 rfl (by kernel_rfl) (by intro c a d v w h; cases d <;> exact h) (fun w => (q_extract rfl rfl)) rfl (listed' := #[true, true, true, true, true, true, true, true, true, true, true, true, false, false, false, false]) rfl fun a hA => ?_
          refine apq hA 12 rfl (by kernel_rfl) (by intro c a d v w h; cases d <;> exact h) (fun w => (q_extract rfl rfl)) rfl (listed' := #[true, true, true, true, true, true, true, true, true, true, true, true, true, false, false, false]) rfl fun a hA => ?_
          refine al hA 13 rfl (by kernel_rfl) (lo_allocA hH ti24) rfl (listed' := #[true, true, true, true, true, true, true, true, true, true, true, true, true, true, false, false]) rfl ?_
          clear hH; rintro _ w ⟨b_t13, rfl, hH⟩
          have hS' := hH.pick [2, 3, 4, 5, 6] (Hs' := [_, _, _, _, _]) rfl
          replace hS := hS'; clear hS'
          refine ⟨fun _ _ => hS, ?_⟩
          intro a hA
          refine al0 hA 14 rfl (by kernel_rfl) (lo_storeAm hH ti24 rfl rfl (by first | rfl | (simp; done) | (rw [List.length_map]; exact hvh) | exact hvh) (by first | rfl | (simp; done) | (rw [List.length_map]; exact hvh) | exact hvh) (one_B8 _)) (listed' := #[true, true, true, true, true, true, true, true, true, true, true, true, true, true, true, false]) rfl ?_
          clear hH; rintro _ w hH
          refine ⟨fun _ h => absurd h (by decide), ?_⟩
          refine apq hA 15 rfl (by kernel_rfl) (by intro c a d v w h; cases d <;> exact h) (fun w => (q_assign rfl)) rfl (listed' := #[true, true, true, true, true, true, true, true, true, true, true, true, true, true, true, true]) rfl fun a hA => ?_
          refine a_end (by kernel_rfl) ?_ _
          refine hK40 _ _ ?_
          clear hK40
          replace hA := hA.sub (E' := [(14, _), (13, _), (12, _), (10, _), (9, _), (8, _)]) ⟨rfl, rfl, rfl, rfl, rfl, rfl, trivial⟩
          refine wp_seq_k fun K41 hK41 => ?_
          refine wp_region_lit ?_
          refine sq hA (q_move rfl) rfl fun a hA => ?_
          refine sq hA (Runs.bt (q_eqlI (n := 0) rfl rfl) (by rfl)) rfl fun a hA => ?_
          refine sq hA (q_move rfl) rfl fun a hA => ?_
          refine gq hA rfl rfl (q_move rfl) rfl fun a hA => ?_
          refine gq hA rfl rfl (Runs.bt (q_eqlI (n := 0) rfl rfl) (by rfl)) rfl fun a hA => ?_
          refine sq hA (q_pick_t rfl rfl) rfl fun a hA => ?_
          refine sq hA (q_move rfl) rfl fun a hA => ?_
          refine gq hA rfl rfl (q_move rfl) rfl fun a hA => ?_
          refine gq hA rfl rfl (Runs.bt (q_eqlI (n := 0) rfl rfl) (by rfl)) rfl fun a hA => ?_
          refine sq hA (q_pick_t rfl rfl) rfl fun a hA => ?_
          refine sq hA (q_move rfl) rfl fun a hA => ?_
          refine gq hA rfl rfl (q_loadW hH 4 rfl Tryd.underlying24 rfl ti24 rfl (by first | rfl | (simp; done) | (rw [List.length_map]; exact hva) | exact hva)) rfl fun a hA => ?_
          refine gq hA rfl rfl (q_loadW hH 0 rfl Tryd.underlying24 rfl ti24 rfl (by first | rfl | (simp; done) | (rw [List.length_map]; exact hvh) | exact hvh)) rfl fun a hA => ?_
          refine gq hA rfl rfl (Runs.bt (q_eqlA8 (p := clm p i ds ds.length) (q := clm (clm p (i % qk) (ds.take k) k) (i / qk) (ds.drop k) (ds.length - k)) eqa24 rfl rfl rfl rfl (by first | exact hva | exact hvh) (by first | exact hva | exact hvh)) (by rw [hqk]; exact (clm_parts p i ds hk).symm)) rfl fun a hA => ?_
          refine sq hA (q_pick_t rfl rfl) rfl fun a hA => ?_
          refine sq hA (q_move rfl) rfl fun a hA => ?_
          refine gl hA rfl rfl (lo_call fn15 rfl (awake6_any (hg.mono0 hH))) rfl ?_
          rintro _ w ⟨rfl, hC⟩ a hA
          replace hH := HS.call0 hH hC
          clear hC
          refine sq hA (q_pick_t rfl rfl) rfl fun a hA => ?_
          refine sq hA (q_assign rfl) rfl fun a hA => ?_
          refine wpList_nil ?_
          refine hK41 _ _ ?_
          clear hK41
          replace hA := hA.sub (E' := [(8, _)]) ⟨rfl, trivial⟩
          refine wp_ret ?_
          refine post_ret hA (res_1 rfl hA rfl) ?_
          replace hH := hH.pick [] (Hs' := []) rfl
          exact ⟨_, rfl, rfl, hH⟩
        · skip
          refine oneL hA 13 rfl (lo_allocA hH ti24) rfl (listed' := #[true, true, true, true, true, true, true, true, true, false, false, false, false, true, false, false]) rfl ?_
          clear hH; rintro _ w ⟨b_t13, rfl, hH⟩
          have hS' := hH.pick [2, 3, 4, 5, 6] (Hs' := [_, _, _, _, _]) rfl
          replace hS := hS'; clear hS'
          refine ⟨fun _ _ => hS, ?_⟩
          intro a hA
          refine al hA 9 rfl (by kernel_rfl) (lo_call fn25 rfl (climb_at (climb_any (hg.mono0 hH) (clm p (i % qk) (ds.take k) k) (i / qk) _ (ds.drop k) hvl (hd.drop k) (Own.rd0 hO_t70 hH 1 rfl) (by omega) (by rw [hkd]; exact clm_quo hk hqk hqn hin)) hkd)) rfl (listed' := #[true, true, true, true, true, true, true, true, true, true, false, false, false, true, false, false]) rfl ?_
          rintro _ w ⟨rfl, hC⟩
          replace hH := HS.call0 hH hC
          clear hC
          refine ⟨fun _ h => absurd h (by decide), ?_⟩
          intro a hA
          refine apq hA 10 rfl (by kernel_rfl) (by intro c a d v w h; cases d <;> exact h) (fun w => (q_move rfl)) rfl (listed' := #[true, true, true, true, true, true, true, true, true, true, true, false, false, true, false, false]) rfl fun a hA => ?_
          refine apq hA 11 rfl (by kernel_rfl) (by intro c a d v w h; cases d <;> exact h) (fun w => (q_extract rfl rfl)) rfl (listed' := #[true, true, true, true, true, true, true, true, true, true, true, true, false, true, false, false]) rfl fun a hA => ?_
          refine apq hA 12 rfl (by kernel_rfl) (by intro c a d v w h; cases d <;> exact h) (fun w => (q_extract rfl rfl)) rfl (listed' := #[true, true, true, true, true, true, true, true, true, true, true, true, true, true, false, false]) rfl fun a hA => ?_
          refine al0 hA 14 rfl (by kernel_rfl) (lo_storeAm hH ti24 rfl rfl (by first | rfl | (simp; done) | (rw [List.length_map]; exact hvh) | exact hvh) (by first | rfl | (simp; done) | (rw [List.length_map]; exact hvh) | exact hvh) (one_B8 _)) (listed' := #[true, true, true, true, true, true, true, true, true, true, true, true, true, true, true, false]) rfl ?_
          clear hH; rintro _ w hH
          refine ⟨fun _ h => absurd h (by decide), ?_⟩
          refine apq hA 15 rfl (by kernel_rfl) (by intro c a d v w h; cases d <;> exact h) (fun w => (q_assign rfl)) rfl (listed' := #[true, true, true, true, true, true, true, true, true, true, true, true, true, true, true, true]) rfl fun a hA => ?_
          refine a_end (by kernel_rfl) ?_ _
          refine hK40 _ _ ?_
          clear hK40
          replace hA := hA.sub (E' := [(14, _), (13, _), (12, _), (10, _), (9, _), (8, _)]) ⟨rfl, rfl, rfl, rfl, rfl, rfl, trivial⟩
          refine wp_seq_k fun K42 hK42 => ?_
          refine wp_region_lit ?_
          refine sq hA (q_move rfl) rfl fun a hA => ?_
          refine sq hA (Runs.bt (q_eqlI (n := 0) rfl rfl) (by rfl)) rfl fun a hA => ?_
          refine sq hA (q_move rfl) rfl fun a hA => ?_
          refine gq hA rfl rfl (q_move rfl) rfl fun a hA => ?_
          refine gq hA rfl rfl (Runs.bt (q_eqlI (n := 0) rfl rfl) (by rfl)) rfl fun a hA => ?_
          refine sq hA (q_pick_t rfl rfl) rfl fun a hA => ?_
          refine sq hA (q_move rfl) rfl fun a hA => ?_
          refine gq hA rfl rfl (q_move rfl) rfl fun a hA => ?_
          refine gq hA rfl rfl (Runs.bt (q_eqlI (n := 0) rfl rfl) (by rfl)) rfl fun a hA => ?_
          refine sq hA (q_pick_t rfl rfl) rfl fun a hA => ?_
          refine sq hA (q_move rfl) rfl fun a hA => ?_
          refine gq hA rfl rfl (q_loadW hH 4 rfl Tryd.underlying24 rfl ti24 rfl (by first | rfl | (simp; done) | (rw [List.length_map]; exact hva) | exact hva)) rfl fun a hA => ?_
          refine gq hA rfl rfl (q_loadW hH 0 rfl Tryd.underlying24 rfl ti24 rfl (by first | rfl | (simp; done) | (rw [List.length_map]; exact hvh) | exact hvh)) rfl fun a hA => ?_
          refine gq hA rfl rfl (Runs.bt (q_eqlA8 (p := clm p i ds ds.length) (q := clm (clm p (i % qk) (ds.take k) k) (i / qk) (ds.drop k) (ds.length - k)) eqa24 rfl rfl rfl rfl (by first | exact hva | exact hvh) (by first | exact hva | exact hvh)) (by rw [hqk]; exact (clm_parts p i ds hk).symm)) rfl fun a hA => ?_
          refine sq hA (q_pick_t rfl rfl) rfl fun a hA => ?_
          refine sq hA (q_move rfl) rfl fun a hA => ?_
          refine gl hA rfl rfl (lo_call fn15 rfl (awake6_any (hg.mono0 hH))) rfl ?_
          rintro _ w ⟨rfl, hC⟩ a hA
          replace hH := HS.call0 hH hC
          clear hC
          refine sq hA (q_pick_t rfl rfl) rfl fun a hA => ?_
          refine sq hA (q_assign rfl) rfl fun a hA => ?_
          refine wpList_nil ?_
          refine hK42 _ _ ?_
          clear hK42
          replace hA := hA.sub (E' := [(8, _)]) ⟨rfl, trivial⟩
          refine wp_ret ?_
          refine post_ret hA (res_1 rfl hA rfl) ?_
          replace hH := hH.pick [] (Hs' := []) rfl
          exact ⟨_, rfl, rfl, hH⟩
      · skip
        refine oneL hA 13 rfl (lo_allocA hH ti24) rfl (listed' := #[true, true, true, true, true, true, true, true, false, false, false, false, false, true, false, false]) rfl ?_
        clear hH; rintro _ w ⟨b_t13, rfl, hH⟩
        have hS' := hH.pick [1, 2, 3, 4, 5] (Hs' := [_, _, _, _, _]) rfl
        replace hS := hS'; clear hS'
        refine ⟨fun _ _ => hS, ?_⟩
        intro a hA
        refine al hA 8 rfl (by kernel_rfl) (lo_call fn17 rfl (own6_any _ (ds.drop k) (hd.drop k) (hH.rd hO_t69) (by omega))) rfl (listed' := #[true, true, true, true, true, true, true, true, true, false, false, false, false, true, false, false]) rfl ?_
        rintro _ w ⟨v_t70, N_t70, rfl, hO_t70, hC⟩
        replace hH := HS.call0 hH hC
        clear hC
        have hS' := hH.pick [2, 3, 4, 5, 6] (Hs' := [_, _, _, _, _]) rfl
        replace hS := hS'; clear hS'
        refine ⟨fun _ _ => hS, ?_⟩
        intro a hA
        refine al hA 9 rfl (by kernel_rfl) (lo_call fn25 rfl (climb_at (climb_any (hg.mono0 hH) (clm p (i % qk) (ds.take k) k) (i / qk) _ (ds.drop k) hvl (hd.drop k) (Own.rd0 hO_t70 hH 0 rfl) (by omega) (by rw [hkd]; exact clm_quo hk hqk hqn hin)) hkd)) rfl (listed' := #[true, true, true, true, true, true, true, true, true, true, false, false, false, true, false, false]) rfl ?_
        rintro _ w ⟨rfl, hC⟩
        replace hH := HS.call0 hH hC
        clear hC
        refine ⟨fun _ h => absurd h (by decide), ?_⟩
        intro a hA
        refine apq hA 10 rfl (by kernel_rfl) (by intro c a d v w h; cases d <;> exact h) (fun w => (q_move rfl)) rfl (listed' := #[true, true, true, true, true, true, true, true, true, true, true, false, false, true, false, false]) rfl fun a hA => ?_
        refine apq hA 11 rfl (by kernel_rfl) (by intro c a d v w h; cases d <;> exact h) (fun w => (q_extract rfl rfl)) rfl (listed' := #[true, true, true, true, true, true, true, true, true, true, true, true, false, true, false, false]) rfl fun a hA => ?_
        refine apq hA 12 rfl (by kernel_rfl) (by intro c a d v w h; cases d <;> exact h) (fun w => (q_extract rfl rfl)) rfl (listed' := #[true, true, true, true, true, true, true, true, true, true, true, true, true, true, false, false]) rfl fun a hA => ?_
        replace hH := hH.pick [1, 0, 2, 3, 4, 5, 6] (Hs' := [_, _, _, _, _, _, _]) rfl
        refine al0 hA 14 rfl (by kernel_rfl) (lo_storeAm hH ti24 rfl rfl (by first | rfl | (simp; done) | (rw [List.length_map]; exact hvh) | exact hvh) (by first | rfl | (simp; done) | (rw [List.length_map]; exact hvh) | exact hvh) (one_B8 _)) (listed' := #[true, true, true, true, true, true, true, true, true, true, true, true, true, true, true, false]) rfl ?_
        clear hH; rintro _ w hH
        refine ⟨fun _ h => absurd h (by decide), ?_⟩
        refine apq hA 15 rfl (by kernel_rfl) (by intro c a d v w h; cases d <;> exact h) (fun w => (q_assign rfl)) rfl (listed' := #[true, true, true, true, true, true, true, true, true, true, true, true, true, true, true, true]) rfl fun a hA => ?_
        refine a_end (by kernel_rfl) ?_ _
        refine hK40 _ _ ?_
        clear hK40
        replace hA := hA.sub (E' := [(14, _), (13, _), (12, _), (10, _), (9, _), (8, _)]) ⟨rfl, rfl, rfl, rfl, rfl, rfl, trivial⟩
        refine wp_seq_k fun K43 hK43 => ?_
        refine wp_region_lit ?_
        refine sq hA (q_move rfl) rfl fun a hA => ?_
        refine sq hA (Runs.bt (q_eqlI (n := 0) rfl rfl) (by rfl)) rfl fun a hA => ?_
        refine sq hA (q_move rfl) rfl fun a hA => ?_
        refine gq hA rfl rfl (q_move rfl) rfl fun a hA => ?_
        refine gq hA rfl rfl (Runs.bt (q_eqlI (n := 0) rfl rfl) (by rfl)) rfl fun a hA => ?_
        refine sq hA (q_pick_t rfl rfl) rfl fun a hA => ?_
        refine sq hA (q_move rfl) rfl fun a hA => ?_
        refine gq hA rfl rfl (q_move rfl) rfl fun a hA => ?_
        refine gq hA rfl rfl (Runs.bt (q_eqlI (n := 0) rfl rfl) (by rfl)) rfl fun a hA => ?_
        refine sq hA (q_pick_t rfl rfl) rfl fun a hA => ?_
        refine sq hA (q_move rfl) rfl fun a hA => ?_
        refine gq hA rfl rfl (q_loadW hH 4 rfl Tryd.underlying24 rfl ti24 rfl (by first | rfl | (simp; done) | (rw [List.length_map]; exact hva) | exact hva)) rfl fun a hA => ?_
        refine gq hA rfl rfl (q_loadW hH 0 rfl Tryd.underlying24 rfl ti24 rfl (by first | rfl | (simp; done) | (rw [List.length_map]; exact hvh) | exact hvh)) rfl fun a hA => ?_
        refine gq hA rfl rfl (Runs.bt (q_eqlA8 (p := clm p i ds ds.length) (q := clm (clm p (i % qk) (ds.take k) k) (i / qk) (ds.drop k) (ds.length - k)) eqa24 rfl rfl rfl rfl (by first | exact hva | exact hvh) (by first | exact hva | exact hvh)) (by rw [hqk]; exact (clm_parts p i ds hk).symm)) rfl fun a hA => ?_
        refine sq hA (q_pick_t rfl rfl) rfl fun a hA => ?_
        refine sq hA (q_move rfl) rfl fun a hA => ?_
        refine gl hA rfl rfl (lo_call fn15 rfl (awake6_any (hg.mono0 hH))) rfl ?_
        rintro _ w ⟨rfl, hC⟩ a hA
        replace hH := HS.call0 hH hC
        clear hC
        refine sq hA (q_pick_t rfl rfl) rfl fun a hA => ?_
        refine sq hA (q_assign rfl) rfl fun a hA => ?_
        refine wpList_nil ?_
        refine hK43 _ _ ?_
        clear hK43
        replace hA := hA.sub (E' := [(8, _)]) ⟨rfl, trivial⟩
        refine wp_ret ?_
        refine post_ret hA (res_1 rfl hA rfl) ?_
        replace hH := hH.pick [] (Hs' := []) rfl
        exact ⟨_, rfl, rfl, hH⟩

end Go.Proofs.YtommjkbbgmkdoaaDoor
