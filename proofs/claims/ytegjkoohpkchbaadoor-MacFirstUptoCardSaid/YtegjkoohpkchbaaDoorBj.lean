/- Layer 3 (mac): laws of chapter 03. -/
import Derived.Test.YtegjkoohpkchbaaDoorBi
namespace Go.Proofs.YtegjkoohpkchbaaDoor
open Go
set_option linter.unusedVariables false
set_option linter.unusedSimpArgs false
set_option maxRecDepth 100000

theorem own_any {w0 : World} (v : Value) (l : Bs) (hr : By [] w0 v l) (hl : l.length ≤ 1048576) :
    Calls Tryd.prog 31 #[v] w0 (Ret fun r w' => ∃ v' N, v' = r ∧ Ow B8 5 v' l N ∧ HS [] w0 w' [N]) := by
  have hH := HS.start w0
  refine start (n := 6) (E := [(0, _)]) Tryd.func31 rfl rfl rfl (args_look rfl) ?_
  intro a hA
  refine wp_seq_k fun K1 hK1 => ?_
  refine wp_region_lit ?_
  refine sq hA (q_assign rfl) rfl fun a hA => ?_
  refine wpList_nil ?_
  refine hK1 _ _ ?_
  clear hK1
  refine wp_seq_k fun K2 hK2 => ?_
  refine wp_region_lit ?_
  refine sl hA (lo_bs (f := B8) (e := 5) ([]) hH rfl rfl (fun w => by kernel_rfl)) rfl ?_
  clear hH; rintro v_t3 w ⟨N_t3, hO_t3, hH⟩ a hA
  refine sq hA (q_move rfl) rfl fun a hA => ?_
  refine sl hA (lo_appm hH Tryd.underlying22 Tryd.underlying22 (.inl rfl) ti5 rfl rfl rfl hO_t3 (Rd.src (hH.rd hr)) (one_B8 _) (by first | omega | (simp; done) | (simp; omega)) (by first | omega | (simp; done) | (simp; omega))) rfl ?_
  clear hH; rintro v_t5 w ⟨N_t5, hO_t5, hH⟩ a hA
  refine sq hA (q_assign rfl) rfl fun a hA => ?_
  refine wpList_nil ?_
  refine hK2 _ _ ?_
  clear hK2
  replace hA := hA.sub (E' := [(2, _)]) ⟨rfl, trivial⟩
  refine wp_ret ?_
  refine post_ret hA (res_1 rfl hA rfl) ?_
  exact ⟨_, rfl, v_t5, N_t5, rfl, hO_t5, hH⟩

theorem awake3_any {w0 : World} {lv : Nat} (hg : Gl lv w0) :
    Calls Tryd.prog 29 #[] w0 (Ret fun r w' => r = .bool true ∧ HS [] w0 w' []) := by
  have hH := HS.start w0
  refine start (n := 19) (E := []) Tryd.func29 rfl rfl rfl (args_look rfl) ?_
  intro a hA
  refine wp_seq_k fun K1 hK1 => ?_
  refine wp_region_lit ?_
  refine sq hA (q_assign rfl) rfl fun a hA => ?_
  refine wpList_nil ?_
  refine hK1 _ _ ?_
  clear hK1
  refine wp_seq_k fun K2 hK2 => ?_
  refine wp_region_lit ?_
  refine sl hA (lo_bs (f := B8) (e := 5) ([74#8, 101#8, 102#8, 101#8]) hH rfl rfl (fun w => by kernel_rfl)) rfl ?_
  clear hH; rintro v_t2 w ⟨N_t2, hO_t2, hH⟩ a hA
  refine sl hA (lo_bsR (e := 5) ([119#8, 104#8, 97#8, 116#8, 32#8, 100#8, 111#8, 32#8, 121#8, 97#8, 32#8, 119#8, 97#8, 110#8, 116#8, 32#8, 102#8, 111#8, 114#8, 32#8, 110#8, 111#8, 116#8, 104#8, 105#8, 110#8, 103#8, 63#8]) hH rfl rfl (fun w => by kernel_rfl)) rfl ?_
  clear hH; rintro _ w ⟨b_t3, rfl, hH⟩ a hA
  refine sl hA (lo_cvBytes hH Tryd.underlying22 Tryd.underlying5 rfl rfl) rfl ?_
  clear hH; rintro v_t4 w ⟨N_t4, hO_t4, hH⟩ a hA
  refine sl hA (lo_call fn30 rfl (mac_any (hg.mono0 hH) _ _ ([74#8, 101#8, 102#8, 101#8]) ([119#8, 104#8, 97#8, 116#8, 32#8, 100#8, 111#8, 32#8, 121#8, 97#8, 32#8, 119#8, 97#8, 110#8, 116#8, 32#8, 102#8, 111#8, 114#8, 32#8, 110#8, 111#8, 116#8, 104#8, 105#8, 110#8, 103#8, 63#8]) (Own.rd0 hO_t2 hH 1 rfl) (Own.rd0 hO_t4 hH 0 rfl) (by simp) (by simp))) rfl ?_
  rintro _ w ⟨rfl, hC⟩ a hA
  replace hH := HS.call0 hH hC
  clear hC
  refine sl hA (lo_allocA hH ti25) rfl ?_
  clear hH; rintro _ w ⟨b_t1, rfl, hH⟩ a hA
  refine s0 hA (lo_storeAm hH ti25 rfl rfl (by first | rfl | (simp; done)) (by first | rfl | (simp; done)) (one_B8 _)) ?_
  clear hH; rintro _ w hH
  refine wpList_nil ?_
  refine hK2 _ _ ?_
  clear hK2
  replace hA := hA.sub (E' := [(1, _), (0, _)]) ⟨rfl, rfl, trivial⟩
  refine wp_seq_k fun K3 hK3 => ?_
  refine wp_region_lit ?_
  refine sq hA (q_idxA1 (0) Tryd.underlying25 ti5 rfl rfl (rfl) (by first | omega | (simp; done) | (simp; omega) | (simp [*]; done) | (simp [*]; omega))) rfl fun a hA => ?_
  refine sq hA (q_loadBm (0#8) hH 0 rfl Tryd.underlying5 rfl rfl (by first | omega | (simp; done) | (simp; omega) | (simp [*]; done) | (simp [*]; omega))) rfl fun a hA => ?_
  refine sq hA (Runs.bt (q_eql8 (q := 91#8) rfl rfl) (by exact jefe_0)) rfl fun a hA => ?_
  refine sq hA (q_move rfl) rfl fun a hA => ?_
  refine gq hA rfl rfl (q_idxA1 (1) Tryd.underlying25 ti5 rfl rfl (rfl) (by first | omega | (simp; done) | (simp; omega) | (simp [*]; done) | (simp [*]; omega))) rfl fun a hA => ?_
  refine gq hA rfl rfl (q_loadBm (0#8) hH 0 rfl Tryd.underlying5 rfl rfl (by first | omega | (simp; done) | (simp; omega) | (simp [*]; done) | (simp [*]; omega))) rfl fun a hA => ?_
  refine gq hA rfl rfl (Runs.bt (q_eql8 (q := 220#8) rfl rfl) (by exact jefe_1)) rfl fun a hA => ?_
  refine sq hA (q_pick_t rfl rfl) rfl fun a hA => ?_
  refine sq hA (q_move rfl) rfl fun a hA => ?_
  refine gq hA rfl rfl (q_idxA1 (31) Tryd.underlying25 ti5 rfl rfl (rfl) (by first | omega | (simp; done) | (simp; omega) | (simp [*]; done) | (simp [*]; omega))) rfl fun a hA => ?_
  refine gq hA rfl rfl (q_loadBm (0#8) hH 0 rfl Tryd.underlying5 rfl rfl (by first | omega | (simp; done) | (simp; omega) | (simp [*]; done) | (simp [*]; omega))) rfl fun a hA => ?_
  refine gq hA rfl rfl (Runs.bt (q_eql8 (q := 67#8) rfl rfl) (by exact jefe_31)) rfl fun a hA => ?_
  refine sq hA (q_pick_t rfl rfl) rfl fun a hA => ?_
  refine sq hA (q_assign rfl) rfl fun a hA => ?_
  refine wpList_nil ?_
  refine hK3 _ _ ?_
  clear hK3
  replace hA := hA.sub (E' := [(0, _)]) ⟨rfl, trivial⟩
  refine wp_ret ?_
  refine post_ret hA (res_1 rfl hA rfl) ?_
  replace hH := hH.pick [] (Hs' := []) rfl
  exact ⟨_, rfl, rfl, hH⟩

theorem macSums_any {w0 : World} (hg : Gl 2 w0) (u v : Value) (k l : Bs) (hu : By [] w0 u k) (hr : By [] w0 v l) (hl : k.length + l.length ≤ 1048576) :
    Calls Tryd.prog 9 #[u, v] w0 (Ret fun r w' => r = .bool true ∧ HS [] w0 w' []) := by
  have hH := HS.start w0
  refine start (n := 26) (E := [(0, _), (1, _)]) Tryd.func9 rfl rfl rfl (args_look rfl) ?_
  intro a hA
  refine wp_seq_k fun K1 hK1 => ?_
  refine wp_region_lit ?_
  refine sq hA (q_assign rfl) rfl fun a hA => ?_
  refine wpList_nil ?_
  refine hK1 _ _ ?_
  clear hK1
  refine wp_seq_k fun K2 hK2 => ?_
  refine wp_seq_k fun K3 hK3 => ?_
  refine wp_region_lit ?_
  refine sq hA (q_move rfl) rfl fun a hA => ?_
  refine sq hA (q_len Tryd.underlying22 rfl (Rd.shp hu)) rfl fun a hA => ?_
  rcases Classical.em (500 < k.length) with hs7 | hs7
  · skip
    refine sq hA (Runs.bt (q_gtrI (n := 500) rfl rfl) (by omega)) rfl fun a hA => ?_
    refine sq hA (q_move rfl) rfl fun a hA => ?_
    refine gs hA rfl rfl rfl rfl fun a hA => ?_
    refine gs hA rfl rfl rfl rfl fun a hA => ?_
    refine gs hA rfl rfl rfl rfl fun a hA => ?_
    refine sq hA (q_pick_t rfl rfl) rfl fun a hA => ?_
    refine wpList_nil ?_
    refine hK3 _ _ ?_
    clear hK3
    replace hA := hA.sub (E' := [(12, _), (4, _), (0, _), (1, _)]) ⟨rfl, rfl, rfl, rfl, trivial⟩
    refine cond_t hA rfl ?_
    refine wp_seq_k fun K4 hK4 => ?_
    refine wp_region_lit ?_
    refine sl hA (lo_call fn29 rfl (awake3_any (hg.mono0 hH))) rfl ?_
    rintro _ w ⟨rfl, hC⟩ a hA
    replace hH := HS.call0 hH hC
    clear hC
    refine sq hA (q_assign rfl) rfl fun a hA => ?_
    refine wpList_nil ?_
    refine hK4 _ _ ?_
    clear hK4
    replace hA := hA.sub (E' := [(4, _), (0, _), (1, _)]) ⟨rfl, rfl, rfl, trivial⟩
    refine wp_ret ?_
    refine then_ret ?_
    refine post_ret hA (res_1 rfl hA rfl) ?_
    exact ⟨_, rfl, rfl, hH⟩
  · skip
    refine sq hA (Runs.bf (q_gtrI (n := 500) rfl rfl) (by omega)) rfl fun a hA => ?_
    refine sq hA (q_move rfl) rfl fun a hA => ?_
    refine gq hA rfl rfl (q_move rfl) rfl fun a hA => ?_
    refine gq hA rfl rfl (q_len Tryd.underlying22 rfl (Rd.shp hr)) rfl fun a hA => ?_
    rcases Classical.em (500 < l.length) with hs11 | hs11
    · skip
      refine gq hA rfl rfl (Runs.bt (q_gtrI (n := 500) rfl rfl) (by omega)) rfl fun a hA => ?_
      refine sq hA (q_pick_f rfl rfl) rfl fun a hA => ?_
      refine wpList_nil ?_
      refine hK3 _ _ ?_
      clear hK3
      replace hA := hA.sub (E' := [(12, _), (4, _), (0, _), (1, _)]) ⟨rfl, rfl, rfl, rfl, trivial⟩
      refine cond_t hA rfl ?_
      refine wp_seq_k fun K5 hK5 => ?_
      refine wp_region_lit ?_
      refine sl hA (lo_call fn29 rfl (awake3_any (hg.mono0 hH))) rfl ?_
      rintro _ w ⟨rfl, hC⟩ a hA
      replace hH := HS.call0 hH hC
      clear hC
      refine sq hA (q_assign rfl) rfl fun a hA => ?_
      refine wpList_nil ?_
      refine hK5 _ _ ?_
      clear hK5
      replace hA := hA.sub (E' := [(4, _), (0, _), (1, _)]) ⟨rfl, rfl, rfl, trivial⟩
      refine wp_ret ?_
      refine then_ret ?_
      refine post_ret hA (res_1 rfl hA rfl) ?_
      exact ⟨_, rfl, rfl, hH⟩
    · skip
      refine gq hA rfl rfl (Runs.bf (q_gtrI (n := 500) rfl rfl) (by omega)) rfl fun a hA => ?_
      refine sq hA (q_pick_f rfl rfl) rfl fun a hA => ?_
      refine wpList_nil ?_
      refine hK3 _ _ ?_
      clear hK3
      replace hA := hA.sub (E' := [(12, _), (4, _), (0, _), (1, _)]) ⟨rfl, rfl, rfl, rfl, trivial⟩
      refine cond_f hA rfl ?_
      refine wp_skip ?_
      refine hK2 _ _ ?_
      clear hK2
      replace hA := hA.sub (E' := [(4, _), (0, _), (1, _)]) ⟨rfl, rfl, rfl, trivial⟩
      refine wp_seq_k fun K6 hK6 => ?_
      refine wp_region_lit ?_
      refine sq hA (q_move rfl) rfl fun a hA => ?_
      refine sl hA (lo_call fn31 rfl (own_any _ (k) (hH.rd hu) (by omega))) rfl ?_
      rintro _ w ⟨v_t15, N_t15, rfl, hO_t15, hC⟩ a hA
      replace hH := HS.call0 hH hC
      clear hC
      refine sq hA (q_move rfl) rfl fun a hA => ?_
      refine sl hA (lo_call fn31 rfl (own_any _ (l) (hH.rd hr) (by omega))) rfl ?_
      rintro _ w ⟨v_t17, N_t17, rfl, hO_t17, hC⟩ a hA
      replace hH := HS.call0 hH hC
      clear hC
      refine sl hA (lo_call fn30 rfl (mac_any (hg.mono0 hH) _ _ (k) (l) (Own.rd0 hO_t15 hH 1 rfl) (Own.rd0 hO_t17 hH 0 rfl) (by omega) (by omega))) rfl ?_
      rintro _ w ⟨rfl, hC⟩ a hA
      replace hH := HS.call0 hH hC
      clear hC
      refine sq hA (q_move rfl) rfl fun a hA => ?_
      refine sq hA (q_move rfl) rfl fun a hA => ?_
      refine sl hA (lo_call fn32 rfl (refmac_any (hg.mono0 hH) _ _ (k) (l) (hH.rd hu) (hH.rd hr) (by omega) (by omega))) rfl ?_
      rintro _ w ⟨rfl, hC⟩ a hA
      replace hH := HS.call0 hH hC
      clear hC
      refine sq hA (Runs.bt (q_eqlA8 eqa25 rfl rfl rfl rfl (by first | rfl | assumption | exact sha_length _ | (simp; done) | (simp [*]; done)) (by first | rfl | assumption | exact sha_length _ | (simp; done) | (simp [*]; done))) (by rfl)) rfl fun a hA => ?_
      refine sq hA (q_move rfl) rfl fun a hA => ?_
      refine gl hA rfl rfl (lo_call fn29 rfl (awake3_any (hg.mono0 hH))) rfl ?_
      rintro _ w ⟨rfl, hC⟩ a hA
      replace hH := HS.call0 hH hC
      clear hC
      refine sq hA (q_pick_t rfl rfl) rfl fun a hA => ?_
      refine sq hA (q_assign rfl) rfl fun a hA => ?_
      refine wpList_nil ?_
      refine hK6 _ _ ?_
      clear hK6
      replace hA := hA.sub (E' := [(4, _)]) ⟨rfl, trivial⟩
      refine wp_ret ?_
      refine post_ret hA (res_1 rfl hA rfl) ?_
      replace hH := hH.pick [] (Hs' := []) rfl
      exact ⟨_, rfl, rfl, hH⟩

theorem msame_any {w0 : World} (u v : Value) (p q : Bs) (hp : By [] w0 u p) (hq : By [] w0 v q) (hl : p.length ≤ 1048576) (hm : q.length ≤ 1048576) :
    Calls Tryd.prog 36 #[u, v] w0 (Ret fun r w' => r = .tuple #[.bool (decide (p = q)), I (max (p.length : Int) q.length)] ∧ HS [] w0 w' []) := by
  have hH := HS.start w0
  refine start (n := 50) (E := [(0, _), (1, _)]) Tryd.func36 rfl rfl rfl (args_look rfl) ?_
  intro a hA
  refine wp_seq_k fun K1 hK1 => ?_
  refine wp_region_lit ?_
  refine sq hA (q_assign rfl) rfl fun a hA => ?_
  refine sq hA (q_assign rfl) rfl fun a hA => ?_
  refine wpList_nil ?_
  refine hK1 _ _ ?_
  clear hK1
  refine wp_seq_k fun K2 hK2 => ?_
  refine wp_seq_k fun K3 hK3 => ?_
  refine wp_region_lit ?_
  refine sq hA (q_move rfl) rfl fun a hA => ?_
  refine sq hA (q_len Tryd.underlying22 rfl (Rd.shp hp)) rfl fun a hA => ?_
  refine sq hA (q_move rfl) rfl fun a hA => ?_
  refine sq hA (q_len Tryd.underlying22 rfl (Rd.shp hq)) rfl fun a hA => ?_
  refine sq hA (q_lssI rfl rfl) rfl fun a hA => ?_
  refine wpList_nil ?_
  refine hK3 _ _ ?_
  clear hK3
  replace hA := hA.sub (E' := [(15, _), (5, _), (4, _), (0, _), (1, _)]) ⟨rfl, rfl, rfl, rfl, rfl, trivial⟩
  refine cond_d hA rfl (fun hc15 => ?_) (fun hc15 => ?_)
  · skip
    refine wp_region_lit ?_
    refine sq hA (q_move rfl) rfl fun a hA => ?_
    refine sq hA (q_move rfl) rfl fun a hA => ?_
    refine sq hA (q_assign rfl) rfl fun a hA => ?_
    refine sq hA (q_assign rfl) rfl fun a hA => ?_
    refine wpList_nil ?_
    refine hK2 _ _ ?_
    clear hK2
    replace hA := hA.sub (E' := [(1, _), (0, _), (5, _), (4, _)]) ⟨rfl, rfl, rfl, rfl, trivial⟩
    refine wp_seq_k fun K4 hK4 => ?_
    refine wp_region_lit ?_
    refine sq hA (q_move rfl) rfl fun a hA => ?_
    refine sq hA (q_len Tryd.underlying22 rfl (Rd.shp hq)) rfl fun a hA => ?_
    refine sq hA (q_move rfl) rfl fun a hA => ?_
    refine sq hA (q_len Tryd.underlying22 rfl (Rd.shp hp)) rfl fun a hA => ?_
    refine sq hA (q_subI rfl rfl (by omega)) rfl fun a hA => ?_
    rw [show ((q.length : Int) - p.length) = ((q.length - p.length : Nat) : Int) by omega] at hA
    refine sq hA (q_assign rfl) rfl fun a hA => ?_
    refine sq hA (q_assign rfl) rfl fun a hA => ?_
    refine wpList_nil ?_
    refine hK4 _ _ ?_
    clear hK4
    replace hA := hA.sub (E' := [(7, _), (6, _), (1, _), (0, _), (5, _), (4, _)]) ⟨rfl, rfl, rfl, rfl, rfl, rfl, trivial⟩
    refine wp_seq_k fun K5 hK5 => ?_
    refine wp_seq_k fun K6 hK6 => ?_
    refine wp_region_lit ?_
    refine sq hA (q_move rfl) rfl fun a hA => ?_
    refine sq hA (q_len Tryd.underlying22 rfl (Rd.shp hq)) rfl fun a hA => ?_
    refine sq hA (q_move rfl) rfl fun a hA => ?_
    refine wpList_nil ?_
    refine hK6 _ _ ?_
    clear hK6
    replace hA := hA.sub (E' := [(25, _), (24, _), (23, _), (7, _), (6, _), (1, _), (5, _), (4, _)]) ⟨rfl, rfl, rfl, rfl, rfl, rfl, rfl, rfl, trivial⟩
    refine wp_block ?_
    refine wp_loop_ghost (fun gm a w => ∃ i : Nat, ∃ z : Nat, At 50 [(25, I i), (24, I (q).length), (23, v), (7, I i), (6, I z), (1, u), (5, (I 0)), (4, (.bool false))] a ∧ HS [] w0 w ([]) ∧ (i ≤ q.length) ∧ (z < 4611686018427387904) ∧ (z = 0 ↔ q.length = p.length ∧ q.take i = p.take i) ∧ gm = q.length - i) (q.length - (0)) ⟨0, q.length - p.length, hA.sub ⟨rfl, rfl, rfl, rfl, rfl, rfl, rfl, rfl, trivial⟩, hH, by omega, by omega, by (simp; omega), rfl⟩ ?_
    clear hA hH
    rintro gm a w ⟨i, z, hA, hH, hi, hzb, hz, rfl⟩
    refine wp_seq_k fun K7 hK7 => ?_
    refine wp_region_lit ?_
    refine sq hA (q_lssI rfl rfl) rfl fun a hA => ?_
    refine wpList_nil ?_
    refine hK7 _ _ ?_
    clear hK7
    refine wp_seq_k fun K8 hK8 => ?_
    refine cond_d hA rfl (fun hc26 => ?_) (fun hc26 => ?_)
    · skip
      refine wp_skip ?_
      refine hK8 _ _ ?_
      clear hK8
      refine wp_seq_k fun K9 hK9 => ?_
      refine wp_block ?_
      refine wp_seq_k fun K10 hK10 => ?_
      refine wp_region_lit ?_
      refine sq hA (q_move rfl) rfl fun a hA => ?_
      refine sq hA (q_idx1 _ Tryd.underlying22 ti5 rfl rfl (rfl) (Rd.shp hq) (by first | omega | (simp; done) | (simp; omega) | (simp [*]; done) | (simp [*]; omega))) rfl fun a hA => ?_
      refine sq hA (q_loadRm (0#8) Tryd.underlying5 rfl rfl (hH.rd hq) (by first | omega | (simp; done) | (simp; omega) | (simp [*]; done) | (simp [*]; omega))) rfl fun a hA => ?_
      refine sq hA (q_assign rfl) rfl fun a hA => ?_
      refine sq hA (q_assign rfl) rfl fun a hA => ?_
      refine wpList_nil ?_
      refine hK10 _ _ ?_
      clear hK10
      refine wp_seq_k fun K11 hK11 => ?_
      refine wp_region_lit ?_
      refine sq hA (q_assign rfl) rfl fun a hA => ?_
      refine wpList_nil ?_
      refine hK11 _ _ ?_
      clear hK11
      refine wp_seq_k fun K12 hK12 => ?_
      refine wp_seq_k fun K13 hK13 => ?_
      refine wp_region_lit ?_
      refine sq hA (q_move rfl) rfl fun a hA => ?_
      refine sq hA (q_move rfl) rfl fun a hA => ?_
      refine sq hA (q_len Tryd.underlying22 rfl (Rd.shp hp)) rfl fun a hA => ?_
      refine sq hA (q_lssI rfl rfl) rfl fun a hA => ?_
      refine wpList_nil ?_
      refine hK13 _ _ ?_
      clear hK13
      refine cond_d hA rfl (fun hc33 => ?_) (fun hc33 => ?_)
      · skip
        obtain ⟨c, hcb0⟩ : ∃ c, c = (p).getD i 0#8 := ⟨_, rfl⟩
        have hcb : i < p.length → c = p.getD i 0#8 := fun _ => hcb0
        have hx8 := (q.getD i 0#8 ^^^ c).isLt
        refine wp_region_lit ?_
        refine sq hA (q_move rfl) rfl fun a hA => ?_
        refine sq hA (q_move rfl) rfl fun a hA => ?_
        refine sq hA (q_idx1 _ Tryd.underlying22 ti5 rfl rfl (rfl) (Rd.shp hp) (by first | omega | (simp; done) | (simp; omega) | (simp [*]; done) | (simp [*]; omega))) rfl fun a hA => ?_
        refine sq hA (q_loadRm (0#8) Tryd.underlying5 rfl rfl (hH.rd hp) (by first | omega | (simp; done) | (simp; omega) | (simp [*]; done) | (simp [*]; omega))) rfl fun a hA => ?_
        rw [← hcb0] at hA
        refine sq hA (q_assign rfl) rfl fun a hA => ?_
        refine wpList_nil ?_
        refine hK12 _ _ ?_
        clear hK12
        refine wp_seq_k fun K14 hK14 => ?_
        refine wp_region_lit ?_
        refine sq hA (q_move rfl) rfl fun a hA => ?_
        refine sq hA (q_move rfl) rfl fun a hA => ?_
        refine sq hA (q_move rfl) rfl fun a hA => ?_
        refine sq hA (q_xor8 rfl rfl) rfl fun a hA => ?_
        refine sq hA (q_cv8_I Tryd.underlying5 Tryd.underlying3 rfl (by omega)) rfl fun a hA => ?_
        refine sq hA (q_orI rfl rfl (by omega) (by omega)) rfl fun a hA => ?_
        refine sq hA (q_assign rfl) rfl fun a hA => ?_
        refine wpList_nil ?_
        refine hK14 _ _ ?_
        clear hK14
        refine wp_region_lit ?_
        refine sq hA (q_move rfl) rfl fun a hA => ?_
        refine sq hA (q_addI (n := 1) rfl rfl (by omega)) rfl fun a hA => ?_
        refine sq hA (q_assign rfl) rfl fun a hA => ?_
        refine wpList_nil ?_
        refine block_normal ?_
        refine hK9 _ _ ?_
        clear hK9
        refine wp_region_lit ?_
        refine sq hA (q_addI (n := 1) rfl rfl (by omega)) rfl fun a hA => ?_
        refine sq hA (q_move rfl) rfl fun a hA => ?_
        refine wpList_nil ?_
        exact ⟨_, by omega, i + 1, z ||| (q.getD i 0#8 ^^^ c).toNat, hA.sub ⟨rfl, rfl, rfl, rfl, rfl, rfl, rfl, rfl, trivial⟩, hH, by omega, by exact or_lt hzb hx8, by exact same_step q p (by omega) (by omega) hz hcb, rfl⟩
      · skip
        obtain ⟨c, hc0⟩ : ∃ c : BitVec 8, c = 0#8 := ⟨_, rfl⟩
        rw [show (Value.int .u8 0) = B8 c from (by rw [hc0]; rfl)] at hA
        have hcb : i < p.length → c = p.getD i 0#8 := fun h => (by omega)
        have hx8 := (q.getD i 0#8 ^^^ c).isLt
        refine wp_skip ?_
        refine hK12 _ _ ?_
        clear hK12
        refine wp_seq_k fun K15 hK15 => ?_
        refine wp_region_lit ?_
        refine sq hA (q_move rfl) rfl fun a hA => ?_
        refine sq hA (q_move rfl) rfl fun a hA => ?_
        refine sq hA (q_move rfl) rfl fun a hA => ?_
        refine sq hA (q_xor8 rfl rfl) rfl fun a hA => ?_
        refine sq hA (q_cv8_I Tryd.underlying5 Tryd.underlying3 rfl (by omega)) rfl fun a hA => ?_
        refine sq hA (q_orI rfl rfl (by omega) (by omega)) rfl fun a hA => ?_
        refine sq hA (q_assign rfl) rfl fun a hA => ?_
        refine wpList_nil ?_
        refine hK15 _ _ ?_
        clear hK15
        refine wp_region_lit ?_
        refine sq hA (q_move rfl) rfl fun a hA => ?_
        refine sq hA (q_addI (n := 1) rfl rfl (by omega)) rfl fun a hA => ?_
        refine sq hA (q_assign rfl) rfl fun a hA => ?_
        refine wpList_nil ?_
        refine block_normal ?_
        refine hK9 _ _ ?_
        clear hK9
        refine wp_region_lit ?_
        refine sq hA (q_addI (n := 1) rfl rfl (by omega)) rfl fun a hA => ?_
        refine sq hA (q_move rfl) rfl fun a hA => ?_
        refine wpList_nil ?_
        exact ⟨_, by omega, i + 1, z ||| (q.getD i 0#8 ^^^ c).toNat, hA.sub ⟨rfl, rfl, rfl, rfl, rfl, rfl, rfl, rfl, trivial⟩, hH, by omega, by exact or_lt hzb hx8, by exact same_step q p (by omega) (by omega) hz hcb, rfl⟩
    · skip
      refine wp_exit ?_
      refine then_exit ?_
      refine then_exit ?_
      refine exit_here ?_
      refine hK5 _ _ ?_
      clear hK5
      replace hA := hA.sub (E' := [(7, _), (6, _), (5, _), (4, _)]) ⟨rfl, rfl, rfl, rfl, trivial⟩
      refine wp_seq_k fun K16 hK16 => ?_
      refine wp_region_lit ?_
      refine sq hA (q_move rfl) rfl fun a hA => ?_
      refine sq hA (q_eqlI (n := 0) rfl rfl) rfl fun a hA => ?_
      refine sq hA (q_move rfl) rfl fun a hA => ?_
      refine sq hA (q_assign rfl) rfl fun a hA => ?_
      refine sq hA (q_assign rfl) rfl fun a hA => ?_
      refine wpList_nil ?_
      refine hK16 _ _ ?_
      clear hK16
      replace hA := hA.sub (E' := [(5, _), (4, _)]) ⟨rfl, rfl, trivial⟩
      refine wp_ret ?_
      refine post_ret hA (res_2 rfl hA rfl rfl) ?_
      obtain rfl : i = q.length := by omega
      have e1 : decide ((z : Int) = 0) = decide (p = q) := decide_eq_decide.2 ((same_fin q p hz).trans ⟨Eq.symm, Eq.symm⟩)
      have e2 : ((q.length : Nat) : Int) = max (p.length : Int) q.length := by omega
      exact ⟨_, rfl, by rw [← e1, ← e2], hH⟩
  · skip
    refine wp_skip ?_
    refine hK2 _ _ ?_
    clear hK2
    replace hA := hA.sub (E' := [(5, _), (4, _), (0, _), (1, _)]) ⟨rfl, rfl, rfl, rfl, trivial⟩
    refine wp_seq_k fun K17 hK17 => ?_
    refine wp_region_lit ?_
    refine sq hA (q_move rfl) rfl fun a hA => ?_
    refine sq hA (q_len Tryd.underlying22 rfl (Rd.shp hp)) rfl fun a hA => ?_
    refine sq hA (q_move rfl) rfl fun a hA => ?_
    refine sq hA (q_len Tryd.underlying22 rfl (Rd.shp hq)) rfl fun a hA => ?_
    refine sq hA (q_subI rfl rfl (by omega)) rfl fun a hA => ?_
    rw [show ((p.length : Int) - q.length) = ((p.length - q.length : Nat) : Int) by omega] at hA
    refine sq hA (q_assign rfl) rfl fun a hA => ?_
    refine sq hA (q_assign rfl) rfl fun a hA => ?_
    refine wpList_nil ?_
    refine hK17 _ _ ?_
    clear hK17
    replace hA := hA.sub (E' := [(7, _), (6, _), (5, _), (4, _), (0, _), (1, _)]) ⟨rfl, rfl, rfl, rfl, rfl, rfl, trivial⟩
    refine wp_seq_k fun K18 hK18 => ?_
    refine wp_seq_k fun K19 hK19 => ?_
    refine wp_region_lit ?_
    refine sq hA (q_move rfl) rfl fun a hA => ?_
    refine sq hA (q_len Tryd.underlying22 rfl (Rd.shp hp)) rfl fun a hA => ?_
    refine sq hA (q_move rfl) rfl fun a hA => ?_
    refine wpList_nil ?_
    refine hK19 _ _ ?_
    clear hK19
    replace hA := hA.sub (E' := [(25, _), (24, _), (23, _), (7, _), (6, _), (5, _), (4, _), (1, _)]) ⟨rfl, rfl, rfl, rfl, rfl, rfl, rfl, rfl, trivial⟩
    refine wp_block ?_
    refine wp_loop_ghost (fun gm a w => ∃ i : Nat, ∃ z : Nat, At 50 [(25, I i), (24, I (p).length), (23, u), (7, I i), (6, I z), (5, (I 0)), (4, (.bool false)), (1, v)] a ∧ HS [] w0 w ([]) ∧ (i ≤ p.length) ∧ (z < 4611686018427387904) ∧ (z = 0 ↔ p.length = q.length ∧ p.take i = q.take i) ∧ gm = p.length - i) (p.length - (0)) ⟨0, p.length - q.length, hA.sub ⟨rfl, rfl, rfl, rfl, rfl, rfl, rfl, rfl, trivial⟩, hH, by omega, by omega, by (simp; omega), rfl⟩ ?_
    clear hA hH
    rintro gm a w ⟨i, z, hA, hH, hi, hzb, hz, rfl⟩
    refine wp_seq_k fun K20 hK20 => ?_
    refine wp_region_lit ?_
    refine sq hA (q_lssI rfl rfl) rfl fun a hA => ?_
    refine wpList_nil ?_
    refine hK20 _ _ ?_
    clear hK20
    refine wp_seq_k fun K21 hK21 => ?_
    refine cond_d hA rfl (fun hc26 => ?_) (fun hc26 => ?_)
    · skip
      refine wp_skip ?_
      refine hK21 _ _ ?_
      clear hK21
      refine wp_seq_k fun K22 hK22 => ?_
      refine wp_block ?_
      refine wp_seq_k fun K23 hK23 => ?_
      refine wp_region_lit ?_
      refine sq hA (q_move rfl) rfl fun a hA => ?_
      refine sq hA (q_idx1 _ Tryd.underlying22 ti5 rfl rfl (rfl) (Rd.shp hp) (by first | omega | (simp; done) | (simp; omega) | (simp [*]; done) | (simp [*]; omega))) rfl fun a hA => ?_
      refine sq hA (q_loadRm (0#8) Tryd.underlying5 rfl rfl (hH.rd hp) (by first | omega | (simp; done) | (simp; omega) | (simp [*]; done) | (simp [*]; omega))) rfl fun a hA => ?_
      refine sq hA (q_assign rfl) rfl fun a hA => ?_
      refine sq hA (q_assign rfl) rfl fun a hA => ?_
      refine wpList_nil ?_
      refine hK23 _ _ ?_
      clear hK23
      refine wp_seq_k fun K24 hK24 => ?_
      refine wp_region_lit ?_
      refine sq hA (q_assign rfl) rfl fun a hA => ?_
      refine wpList_nil ?_
      refine hK24 _ _ ?_
      clear hK24
      refine wp_seq_k fun K25 hK25 => ?_
      refine wp_seq_k fun K26 hK26 => ?_
      refine wp_region_lit ?_
      refine sq hA (q_move rfl) rfl fun a hA => ?_
      refine sq hA (q_move rfl) rfl fun a hA => ?_
      refine sq hA (q_len Tryd.underlying22 rfl (Rd.shp hq)) rfl fun a hA => ?_
      refine sq hA (q_lssI rfl rfl) rfl fun a hA => ?_
      refine wpList_nil ?_
      refine hK26 _ _ ?_
      clear hK26
      refine cond_d hA rfl (fun hc33 => ?_) (fun hc33 => ?_)
      · skip
        obtain ⟨c, hcb0⟩ : ∃ c, c = (q).getD i 0#8 := ⟨_, rfl⟩
        have hcb : i < q.length → c = q.getD i 0#8 := fun _ => hcb0
        have hx8 := (p.getD i 0#8 ^^^ c).isLt
        refine wp_region_lit ?_
        refine sq hA (q_move rfl) rfl fun a hA => ?_
        refine sq hA (q_move rfl) rfl fun a hA => ?_
        refine sq hA (q_idx1 _ Tryd.underlying22 ti5 rfl rfl (rfl) (Rd.shp hq) (by first | omega | (simp; done) | (simp; omega) | (simp [*]; done) | (simp [*]; omega))) rfl fun a hA => ?_
        refine sq hA (q_loadRm (0#8) Tryd.underlying5 rfl rfl (hH.rd hq) (by first | omega | (simp; done) | (simp; omega) | (simp [*]; done) | (simp [*]; omega))) rfl fun a hA => ?_
        rw [← hcb0] at hA
        refine sq hA (q_assign rfl) rfl fun a hA => ?_
        refine wpList_nil ?_
        refine hK25 _ _ ?_
        clear hK25
        refine wp_seq_k fun K27 hK27 => ?_
        refine wp_region_lit ?_
        refine sq hA (q_move rfl) rfl fun a hA => ?_
        refine sq hA (q_move rfl) rfl fun a hA => ?_
        refine sq hA (q_move rfl) rfl fun a hA => ?_
        refine sq hA (q_xor8 rfl rfl) rfl fun a hA => ?_
        refine sq hA (q_cv8_I Tryd.underlying5 Tryd.underlying3 rfl (by omega)) rfl fun a hA => ?_
        refine sq hA (q_orI rfl rfl (by omega) (by omega)) rfl fun a hA => ?_
        refine sq hA (q_assign rfl) rfl fun a hA => ?_
        refine wpList_nil ?_
        refine hK27 _ _ ?_
        clear hK27
        refine wp_region_lit ?_
        refine sq hA (q_move rfl) rfl fun a hA => ?_
        refine sq hA (q_addI (n := 1) rfl rfl (by omega)) rfl fun a hA => ?_
        refine sq hA (q_assign rfl) rfl fun a hA => ?_
        refine wpList_nil ?_
        refine block_normal ?_
        refine hK22 _ _ ?_
        clear hK22
        refine wp_region_lit ?_
        refine sq hA (q_addI (n := 1) rfl rfl (by omega)) rfl fun a hA => ?_
        refine sq hA (q_move rfl) rfl fun a hA => ?_
        refine wpList_nil ?_
        exact ⟨_, by omega, i + 1, z ||| (p.getD i 0#8 ^^^ c).toNat, hA.sub ⟨rfl, rfl, rfl, rfl, rfl, rfl, rfl, rfl, trivial⟩, hH, by omega, by exact or_lt hzb hx8, by exact same_step p q (by omega) (by omega) hz hcb, rfl⟩
      · skip
        obtain ⟨c, hc0⟩ : ∃ c : BitVec 8, c = 0#8 := ⟨_, rfl⟩
        rw [show (Value.int .u8 0) = B8 c from (by rw [hc0]; rfl)] at hA
        have hcb : i < q.length → c = q.getD i 0#8 := fun h => (by omega)
        have hx8 := (p.getD i 0#8 ^^^ c).isLt
        refine wp_skip ?_
        refine hK25 _ _ ?_
        clear hK25
        refine wp_seq_k fun K28 hK28 => ?_
        refine wp_region_lit ?_
        refine sq hA (q_move rfl) rfl fun a hA => ?_
        refine sq hA (q_move rfl) rfl fun a hA => ?_
        refine sq hA (q_move rfl) rfl fun a hA => ?_
        refine sq hA (q_xor8 rfl rfl) rfl fun a hA => ?_
        refine sq hA (q_cv8_I Tryd.underlying5 Tryd.underlying3 rfl (by omega)) rfl fun a hA => ?_
        refine sq hA (q_orI rfl rfl (by omega) (by omega)) rfl fun a hA => ?_
        refine sq hA (q_assign rfl) rfl fun a hA => ?_
        refine wpList_nil ?_
        refine hK28 _ _ ?_
        clear hK28
        refine wp_region_lit ?_
        refine sq hA (q_move rfl) rfl fun a hA => ?_
        refine sq hA (q_addI (n := 1) rfl rfl (by omega)) rfl fun a hA => ?_
        refine sq hA (q_assign rfl) rfl fun a hA => ?_
        refine wpList_nil ?_
        refine block_normal ?_
        refine hK22 _ _ ?_
        clear hK22
        refine wp_region_lit ?_
        refine sq hA (q_addI (n := 1) rfl rfl (by omega)) rfl fun a hA => ?_
        refine sq hA (q_move rfl) rfl fun a hA => ?_
        refine wpList_nil ?_
        exact ⟨_, by omega, i + 1, z ||| (p.getD i 0#8 ^^^ c).toNat, hA.sub ⟨rfl, rfl, rfl, rfl, rfl, rfl, rfl, rfl, trivial⟩, hH, by omega, by exact or_lt hzb hx8, by exact same_step p q (by omega) (by omega) hz hcb, rfl⟩
    · skip
      refine wp_exit ?_
      refine then_exit ?_
      refine then_exit ?_
      refine exit_here ?_
      refine hK18 _ _ ?_
      clear hK18
      replace hA := hA.sub (E' := [(7, _), (6, _), (5, _), (4, _)]) ⟨rfl, rfl, rfl, rfl, trivial⟩
      refine wp_seq_k fun K29 hK29 => ?_
      refine wp_region_lit ?_
      refine sq hA (q_move rfl) rfl fun a hA => ?_
      refine sq hA (q_eqlI (n := 0) rfl rfl) rfl fun a hA => ?_
      refine sq hA (q_move rfl) rfl fun a hA => ?_
      refine sq hA (q_assign rfl) rfl fun a hA => ?_
      refine sq hA (q_assign rfl) rfl fun a hA => ?_
      refine wpList_nil ?_
      refine hK29 _ _ ?_
      clear hK29
      replace hA := hA.sub (E' := [(5, _), (4, _)]) ⟨rfl, rfl, trivial⟩
      refine wp_ret ?_
      refine post_ret hA (res_2 rfl hA rfl rfl) ?_
      obtain rfl : i = p.length := by omega
      have e1 : decide ((z : Int) = 0) = decide (p = q) := decide_eq_decide.2 (same_fin p q hz)
      have e2 : ((p.length : Nat) : Int) = max (p.length : Int) q.length := by omega
      exact ⟨_, rfl, by rw [← e1, ← e2], hH⟩

theorem refsame3_any {w0 : World} (u v : Value) (p q : Bs) (hp : By [] w0 u p) (hq : By [] w0 v q) (hl : p.length ≤ 1048576) (hm : q.length ≤ 1048576) :
    Calls Tryd.prog 37 #[u, v] w0 (Ret fun r w' => r = .tuple #[.bool (decide (p = q)), I (max (p.length : Int) q.length)] ∧ HS [] w0 w' []) := by
  have hH := HS.start w0
  refine start (n := 14) (E := [(0, _), (1, _)]) Tryd.func37 rfl rfl rfl (args_look rfl) ?_
  intro a hA
  refine wp_seq_k fun K1 hK1 => ?_
  refine wp_region_lit ?_
  refine sq hA (q_assign rfl) rfl fun a hA => ?_
  refine sq hA (q_assign rfl) rfl fun a hA => ?_
  refine wpList_nil ?_
  refine hK1 _ _ ?_
  clear hK1
  refine wp_seq_k fun K2 hK2 => ?_
  refine wp_region_lit ?_
  refine sq hA (q_move rfl) rfl fun a hA => ?_
  refine sq hA (q_move rfl) rfl fun a hA => ?_
  refine sl hA (lo_call fn21 rfl (same_any _ _ p q (hH.rd hp) (hH.rd hq) (by omega) (by omega))) rfl ?_
  rintro _ w ⟨rfl, hC⟩ a hA
  replace hH := HS.call0 hH hC
  clear hC
  refine sq hA (q_move rfl) rfl fun a hA => ?_
  refine sq hA (q_len Tryd.underlying22 rfl (Rd.shp hp)) rfl fun a hA => ?_
  refine sq hA (q_move rfl) rfl fun a hA => ?_
  refine sq hA (q_len Tryd.underlying22 rfl (Rd.shp hq)) rfl fun a hA => ?_
  refine sq hA (q_maxI rfl rfl) rfl fun a hA => ?_
  refine sq hA (q_assign rfl) rfl fun a hA => ?_
  refine sq hA (q_assign rfl) rfl fun a hA => ?_
  refine wpList_nil ?_
  refine hK2 _ _ ?_
  clear hK2
  replace hA := hA.sub (E' := [(5, _), (4, _)]) ⟨rfl, rfl, trivial⟩
  refine wp_ret ?_
  refine post_ret hA (res_2 rfl hA rfl rfl) ?_
  have e2 : (if (p.length : Int) < q.length then (q.length : Int) else p.length) = max (p.length : Int) q.length := by split <;> omega
  exact ⟨_, rfl, by rw [← e2], hH⟩

theorem macSame_any {w0 : World} {lv : Nat} (hg : Gl lv w0) (u v : Value) (p q : Bs) (hp : By [] w0 u p) (hq : By [] w0 v q) (hl : p.length + q.length ≤ 1048576) :
    Calls Tryd.prog 12 #[u, v] w0 (Ret fun r w' => r = .bool true ∧ HS [] w0 w' []) := by
  have hH := HS.start w0
  refine start (n := 34) (E := [(0, _), (1, _)]) Tryd.func12 rfl rfl rfl (args_look rfl) ?_
  intro a hA
  refine wp_seq_k fun K1 hK1 => ?_
  refine wp_region_lit ?_
  refine sq hA (q_assign rfl) rfl fun a hA => ?_
  refine wpList_nil ?_
  refine hK1 _ _ ?_
  clear hK1
  refine wp_seq_k fun K2 hK2 => ?_
  refine wp_region_lit ?_
  refine sq hA (q_move rfl) rfl fun a hA => ?_
  refine sl hA (lo_call fn31 rfl (own_any _ (p) (hH.rd hp) (by omega))) rfl ?_
  rintro _ w ⟨v_t11, N_t11, rfl, hO_t11, hC⟩ a hA
  replace hH := HS.call0 hH hC
  clear hC
  refine sq hA (q_move rfl) rfl fun a hA => ?_
  refine sl hA (lo_call fn31 rfl (own_any _ (q) (hH.rd hq) (by omega))) rfl ?_
  rintro _ w ⟨v_t13, N_t13, rfl, hO_t13, hC⟩ a hA
  replace hH := HS.call0 hH hC
  clear hC
  refine sl hA (lo_call fn36 rfl (msame_any _ _ p q (Own.rd0 hO_t11 hH 1 rfl) (Own.rd0 hO_t13 hH 0 rfl) (by omega) (by omega))) rfl ?_
  rintro _ w ⟨rfl, hC⟩ a hA
  replace hH := HS.call0 hH hC
  clear hC
  refine sq hA (q_move rfl) rfl fun a hA => ?_
  refine sq hA (q_extract rfl rfl) rfl fun a hA => ?_
  refine sq hA (q_extract rfl rfl) rfl fun a hA => ?_
  refine sq hA (q_assign rfl) rfl fun a hA => ?_
  refine sq hA (q_assign rfl) rfl fun a hA => ?_
  refine wpList_nil ?_
  refine hK2 _ _ ?_
  clear hK2
  replace hA := hA.sub (E' := [(6, _), (5, _), (4, _), (0, _), (1, _)]) ⟨rfl, rfl, rfl, rfl, rfl, trivial⟩
  refine wp_seq_k fun K3 hK3 => ?_
  refine wp_region_lit ?_
  refine sq hA (q_move rfl) rfl fun a hA => ?_
  refine sq hA (q_move rfl) rfl fun a hA => ?_
  refine sl hA (lo_call fn37 rfl (refsame3_any _ _ p q (hH.rd hp) (hH.rd hq) (by omega) (by omega))) rfl ?_
  rintro _ w ⟨rfl, hC⟩ a hA
  replace hH := HS.call0 hH hC
  clear hC
  refine sq hA (q_move rfl) rfl fun a hA => ?_
  refine sq hA (q_extract rfl rfl) rfl fun a hA => ?_
  refine sq hA (q_extract rfl rfl) rfl fun a hA => ?_
  refine sq hA (q_assign rfl) rfl fun a hA => ?_
  refine sq hA (q_assign rfl) rfl fun a hA => ?_
  refine wpList_nil ?_
  refine hK3 _ _ ?_
  clear hK3
  replace hA := hA.sub (E' := [(8, _), (7, _), (6, _), (5, _), (4, _)]) ⟨rfl, rfl, rfl, rfl, rfl, trivial⟩
  refine wp_seq_k fun K4 hK4 => ?_
  refine wp_region_lit ?_
  refine sq hA (q_move rfl) rfl fun a hA => ?_
  refine sq hA (q_move rfl) rfl fun a hA => ?_
  refine sq hA (Runs.bt (q_eqlB Tryd.underlying4 rfl rfl) (by rfl)) rfl fun a hA => ?_
  refine sq hA (q_move rfl) rfl fun a hA => ?_
  refine gq hA rfl rfl (q_move rfl) rfl fun a hA => ?_
  refine gq hA rfl rfl (q_move rfl) rfl fun a hA => ?_
  refine gq hA rfl rfl (Runs.bt (q_eqlI rfl rfl) (by rfl)) rfl fun a hA => ?_
  refine sq hA (q_pick_t rfl rfl) rfl fun a hA => ?_
  refine sq hA (q_move rfl) rfl fun a hA => ?_
  refine gl hA rfl rfl (lo_call fn29 rfl (awake3_any (hg.mono0 hH))) rfl ?_
  rintro _ w ⟨rfl, hC⟩ a hA
  replace hH := HS.call0 hH hC
  clear hC
  refine sq hA (q_pick_t rfl rfl) rfl fun a hA => ?_
  refine sq hA (q_assign rfl) rfl fun a hA => ?_
  refine wpList_nil ?_
  refine hK4 _ _ ?_
  clear hK4
  replace hA := hA.sub (E' := [(4, _)]) ⟨rfl, trivial⟩
  refine wp_ret ?_
  refine post_ret hA (res_1 rfl hA rfl) ?_
  replace hH := hH.pick [] (Hs' := []) rfl
  exact ⟨_, rfl, rfl, hH⟩

theorem macKeys_any {w0 : World} (hg : Gl 2 w0) (u v : Value) (k l : Bs) (n : Int) (hu : By [] w0 u k) (hr : By [] w0 v l) (hl : k.length + l.length ≤ 1048576) :
    Calls Tryd.prog 10 #[u, v, I n] w0 (Ret fun r w' => r = .bool true ∧ HS [] w0 w' []) := by
  have hH := HS.start w0
  refine start (n := 68) (E := [(0, _), (1, _), (2, _)]) Tryd.func10 rfl rfl rfl (args_look rfl) ?_
  intro a hA
  refine wp_seq_k fun K1 hK1 => ?_
  refine wp_region_lit ?_
  refine sq hA (q_assign rfl) rfl fun a hA => ?_
  refine wpList_nil ?_
  refine hK1 _ _ ?_
  clear hK1
  refine wp_seq_k fun K2 hK2 => ?_
  refine wp_seq_k fun K3 hK3 => ?_
  refine wp_region_lit ?_
  refine sq hA (q_move rfl) rfl fun a hA => ?_
  refine sq hA (q_len Tryd.underlying22 rfl (Rd.shp hu)) rfl fun a hA => ?_
  rcases Classical.em (500 < k.length) with hs11 | hs11
  · skip
    refine sq hA (Runs.bt (q_gtrI (n := 500) rfl rfl) (by omega)) rfl fun a hA => ?_
    refine sq hA (q_move rfl) rfl fun a hA => ?_
    refine gs hA rfl rfl rfl rfl fun a hA => ?_
    refine gs hA rfl rfl rfl rfl fun a hA => ?_
    refine gs hA rfl rfl rfl rfl fun a hA => ?_
    refine sq hA (q_pick_t rfl rfl) rfl fun a hA => ?_
    refine sq hA (q_move rfl) rfl fun a hA => ?_
    refine gs hA rfl rfl rfl rfl fun a hA => ?_
    refine gs hA rfl rfl rfl rfl fun a hA => ?_
    refine sq hA (q_pick_t rfl rfl) rfl fun a hA => ?_
    refine sq hA (q_move rfl) rfl fun a hA => ?_
    refine gs hA rfl rfl rfl rfl fun a hA => ?_
    refine gs hA rfl rfl rfl rfl fun a hA => ?_
    refine sq hA (q_pick_t rfl rfl) rfl fun a hA => ?_
    refine wpList_nil ?_
    refine hK3 _ _ ?_
    clear hK3
    replace hA := hA.sub (E' := [(24, _), (6, _), (0, _), (1, _), (2, _)]) ⟨rfl, rfl, rfl, rfl, rfl, trivial⟩
    refine cond_t hA rfl ?_
    refine wp_seq_k fun K4 hK4 => ?_
    refine wp_region_lit ?_
    refine sl hA (lo_call fn29 rfl (awake3_any (hg.mono0 hH))) rfl ?_
    rintro _ w ⟨rfl, hC⟩ a hA
    replace hH := HS.call0 hH hC
    clear hC
    refine sq hA (q_assign rfl) rfl fun a hA => ?_
    refine wpList_nil ?_
    refine hK4 _ _ ?_
    clear hK4
    replace hA := hA.sub (E' := [(6, _), (0, _), (1, _), (2, _)]) ⟨rfl, rfl, rfl, rfl, trivial⟩
    refine wp_ret ?_
    refine then_ret ?_
    refine post_ret hA (res_1 rfl hA rfl) ?_
    exact ⟨_, rfl, rfl, hH⟩
  · skip
    refine sq hA (Runs.bf (q_gtrI (n := 500) rfl rfl) (by omega)) rfl fun a hA => ?_
    refine sq hA (q_move rfl) rfl fun a hA => ?_
    refine gq hA rfl rfl (q_move rfl) rfl fun a hA => ?_
    refine gq hA rfl rfl (q_len Tryd.underlying22 rfl (Rd.shp hr)) rfl fun a hA => ?_
    rcases Classical.em (500 < l.length) with hs15 | hs15
    · skip
      refine gq hA rfl rfl (Runs.bt (q_gtrI (n := 500) rfl rfl) (by omega)) rfl fun a hA => ?_
      refine sq hA (q_pick_f rfl rfl) rfl fun a hA => ?_
      refine sq hA (q_move rfl) rfl fun a hA => ?_
      refine gs hA rfl rfl rfl rfl fun a hA => ?_
      refine gs hA rfl rfl rfl rfl fun a hA => ?_
      refine sq hA (q_pick_t rfl rfl) rfl fun a hA => ?_
      refine sq hA (q_move rfl) rfl fun a hA => ?_
      refine gs hA rfl rfl rfl rfl fun a hA => ?_
      refine gs hA rfl rfl rfl rfl fun a hA => ?_
      refine sq hA (q_pick_t rfl rfl) rfl fun a hA => ?_
      refine wpList_nil ?_
      refine hK3 _ _ ?_
      clear hK3
      replace hA := hA.sub (E' := [(24, _), (6, _), (0, _), (1, _), (2, _)]) ⟨rfl, rfl, rfl, rfl, rfl, trivial⟩
      refine cond_t hA rfl ?_
      refine wp_seq_k fun K5 hK5 => ?_
      refine wp_region_lit ?_
      refine sl hA (lo_call fn29 rfl (awake3_any (hg.mono0 hH))) rfl ?_
      rintro _ w ⟨rfl, hC⟩ a hA
      replace hH := HS.call0 hH hC
      clear hC
      refine sq hA (q_assign rfl) rfl fun a hA => ?_
      refine wpList_nil ?_
      refine hK5 _ _ ?_
      clear hK5
      replace hA := hA.sub (E' := [(6, _), (0, _), (1, _), (2, _)]) ⟨rfl, rfl, rfl, rfl, trivial⟩
      refine wp_ret ?_
      refine then_ret ?_
      refine post_ret hA (res_1 rfl hA rfl) ?_
      exact ⟨_, rfl, rfl, hH⟩
    · skip
      refine gq hA rfl rfl (Runs.bf (q_gtrI (n := 500) rfl rfl) (by omega)) rfl fun a hA => ?_
      refine sq hA (q_pick_f rfl rfl) rfl fun a hA => ?_
      refine sq hA (q_move rfl) rfl fun a hA => ?_
      refine gq hA rfl rfl (q_move rfl) rfl fun a hA => ?_
      rcases Classical.em (n < 0) with hs19 | hs19
      · skip
        refine gq hA rfl rfl (Runs.bt (q_lssI (n := 0) rfl rfl) (by omega)) rfl fun a hA => ?_
        refine sq hA (q_pick_f rfl rfl) rfl fun a hA => ?_
        refine sq hA (q_move rfl) rfl fun a hA => ?_
        refine gs hA rfl rfl rfl rfl fun a hA => ?_
        refine gs hA rfl rfl rfl rfl fun a hA => ?_
        refine sq hA (q_pick_t rfl rfl) rfl fun a hA => ?_
        refine wpList_nil ?_
        refine hK3 _ _ ?_
        clear hK3
        replace hA := hA.sub (E' := [(24, _), (6, _), (0, _), (1, _), (2, _)]) ⟨rfl, rfl, rfl, rfl, rfl, trivial⟩
        refine cond_t hA rfl ?_
        refine wp_seq_k fun K6 hK6 => ?_
        refine wp_region_lit ?_
        refine sl hA (lo_call fn29 rfl (awake3_any (hg.mono0 hH))) rfl ?_
        rintro _ w ⟨rfl, hC⟩ a hA
        replace hH := HS.call0 hH hC
        clear hC
        refine sq hA (q_assign rfl) rfl fun a hA => ?_
        refine wpList_nil ?_
        refine hK6 _ _ ?_
        clear hK6
        replace hA := hA.sub (E' := [(6, _), (0, _), (1, _), (2, _)]) ⟨rfl, rfl, rfl, rfl, trivial⟩
        refine wp_ret ?_
        refine then_ret ?_
        refine post_ret hA (res_1 rfl hA rfl) ?_
        exact ⟨_, rfl, rfl, hH⟩
      · skip
        refine gq hA rfl rfl (Runs.bf (q_lssI (n := 0) rfl rfl) (by omega)) rfl fun a hA => ?_
        refine sq hA (q_pick_f rfl rfl) rfl fun a hA => ?_
        refine sq hA (q_move rfl) rfl fun a hA => ?_
        refine gq hA rfl rfl (q_move rfl) rfl fun a hA => ?_
        rcases Classical.em (64 < n) with hs23 | hs23
        · skip
          refine gq hA rfl rfl (Runs.bt (q_gtrI (n := 64) rfl rfl) (by omega)) rfl fun a hA => ?_
          refine sq hA (q_pick_f rfl rfl) rfl fun a hA => ?_
          refine wpList_nil ?_
          refine hK3 _ _ ?_
          clear hK3
          replace hA := hA.sub (E' := [(24, _), (6, _), (0, _), (1, _), (2, _)]) ⟨rfl, rfl, rfl, rfl, rfl, trivial⟩
          refine cond_t hA rfl ?_
          refine wp_seq_k fun K7 hK7 => ?_
          refine wp_region_lit ?_
          refine sl hA (lo_call fn29 rfl (awake3_any (hg.mono0 hH))) rfl ?_
          rintro _ w ⟨rfl, hC⟩ a hA
          replace hH := HS.call0 hH hC
          clear hC
          refine sq hA (q_assign rfl) rfl fun a hA => ?_
          refine wpList_nil ?_
          refine hK7 _ _ ?_
          clear hK7
          replace hA := hA.sub (E' := [(6, _), (0, _), (1, _), (2, _)]) ⟨rfl, rfl, rfl, rfl, trivial⟩
          refine wp_ret ?_
          refine then_ret ?_
          refine post_ret hA (res_1 rfl hA rfl) ?_
          exact ⟨_, rfl, rfl, hH⟩
        · skip
          refine gq hA rfl rfl (Runs.bf (q_gtrI (n := 64) rfl rfl) (by omega)) rfl fun a hA => ?_
          refine sq hA (q_pick_f rfl rfl) rfl fun a hA => ?_
          refine wpList_nil ?_
          refine hK3 _ _ ?_
          clear hK3
          replace hA := hA.sub (E' := [(24, _), (6, _), (0, _), (1, _), (2, _)]) ⟨rfl, rfl, rfl, rfl, rfl, trivial⟩
          refine cond_f hA rfl ?_
          refine wp_skip ?_
          refine hK2 _ _ ?_
          clear hK2
          replace hA := hA.sub (E' := [(6, _), (0, _), (1, _), (2, _)]) ⟨rfl, rfl, rfl, rfl, trivial⟩
          refine wp_seq_k fun K8 hK8 => ?_
          refine wp_region_lit ?_
          refine sq hA (q_move rfl) rfl fun a hA => ?_
          refine sl hA (lo_call fn31 rfl (own_any _ (k) (hH.rd hu) (by omega))) rfl ?_
          rintro _ w ⟨v_t27, N_t27, rfl, hO_t27, hC⟩ a hA
          replace hH := HS.call0 hH hC
          clear hC
          refine sq hA (q_move rfl) rfl fun a hA => ?_
          refine sl hA (lo_call fn31 rfl (own_any _ (l) (hH.rd hr) (by omega))) rfl ?_
          rintro _ w ⟨v_t29, N_t29, rfl, hO_t29, hC⟩ a hA
          replace hH := HS.call0 hH hC
          clear hC
          refine sl hA (lo_call fn30 rfl (mac_any (hg.mono0 hH) _ _ (k) (l) (Own.rd0 hO_t27 hH 1 rfl) (Own.rd0 hO_t29 hH 0 rfl) (by omega) (by omega))) rfl ?_
          rintro _ w ⟨rfl, hC⟩ a hA
          replace hH := HS.call0 hH hC
          clear hC
          refine sl hA (lo_allocA hH ti25) rfl ?_
          clear hH; rintro _ w ⟨b_t7, rfl, hH⟩ a hA
          refine s0 hA (lo_storeAm hH ti25 rfl rfl (by first | rfl | (simp; done)) (by first | rfl | (simp; done)) (one_B8 _)) ?_
          clear hH; rintro _ w hH
          refine wpList_nil ?_
          refine hK8 _ _ ?_
          clear hK8
          replace hA := hA.sub (E' := [(7, _), (6, _), (0, _), (1, _), (2, _)]) ⟨rfl, rfl, rfl, rfl, rfl, trivial⟩
          refine wp_seq_k fun K9 hK9 => ?_
          refine wp_seq_k fun K10 hK10 => ?_
          refine wp_region_lit ?_
          refine sq hA (q_move rfl) rfl fun a hA => ?_
          refine sq hA (q_len Tryd.underlying22 rfl (Rd.shp hu)) rfl fun a hA => ?_
          refine sq hA (q_gtrI (n := 64) rfl rfl) rfl fun a hA => ?_
          refine wpList_nil ?_
          refine hK10 _ _ ?_
          clear hK10
          replace hA := hA.sub (E' := [(33, _), (7, _), (6, _), (0, _), (1, _), (2, _)]) ⟨rfl, rfl, rfl, rfl, rfl, rfl, trivial⟩
          refine cond_d hA rfl (fun hc33 => ?_) (fun hc33 => ?_)
          · skip
            refine wp_seq_k fun K11 hK11 => ?_
            refine any_go mixed (fun _ => true) hH ?_
            clear hH; intro w hH
            have hS := hH
            change wpK _ _ _ _ _ _ 12 #[false, false, false, false, false, false, false, false, false, false, false, false] _ _
            refine aq hA 0 rfl (by kernel_rfl) (by intro c a d v w h; cases d <;> exact h) hS (fun w hH => (q_loadW hH 0 rfl Tryd.underlying25 rfl ti25 rfl (by first | omega | (simp; done) | (simp; omega) | (simp [*]; done) | (simp [*]; omega)))) rfl (listed' := #[true, false, false, false, false, false, false, false, false, false, false, false]) rfl fun a hA => ?_
            refine apq hA 1 rfl (by kernel_rfl) (by intro c a d v w h; cases d <;> exact h) (fun w => (q_move rfl)) rfl (listed' := #[true, true, false, false, false, false, false, false, false, false, false, false]) rfl fun a hA => ?_
            refine apq hA 4 rfl (by kernel_rfl) (by intro c a d v w h; cases d <;> exact h) (fun w => (q_move rfl)) rfl (listed' := #[true, true, false, false, true, false, false, false, false, false, false, false]) rfl fun a hA => ?_
            refine al hA 2 rfl (by kernel_rfl) (lo_call fn17 rfl (refsum_any (hg.mono0 hH) _ k (hH.rd hu) (by omega))) rfl (listed' := #[true, true, true, false, true, false, false, false, false, false, false, false]) rfl ?_
            rintro _ w ⟨rfl, hC⟩
            replace hH := HS.call0 hH hC
            clear hC
            have hS' := hH.pick [0, 1, 2] (Hs' := [_, _, _]) rfl
            replace hS := hS'; clear hS'
            refine ⟨fun _ _ => hS, ?_⟩
            intro a hA
            refine al hA 3 rfl (by kernel_rfl) (lo_call fn33 rfl (refdigest_any (sha k) (by simp))) rfl (listed' := #[true, true, true, true, true, false, false, false, false, false, false, false]) rfl ?_
            rintro _ w ⟨v_t37, N_t37, rfl, hO_t37, hC⟩
            replace hH := HS.call0 hH hC
            clear hC
            have hS' := hH.pick [1, 2, 3] (Hs' := [_, _, _]) rfl
            replace hS := hS'; clear hS'
            refine ⟨fun _ _ => hS, ?_⟩
            intro a hA
            refine al hA 5 rfl (by kernel_rfl) (lo_call fn31 rfl (own_any _ (l) (hH.rd hr) (by omega))) rfl (listed' := #[true, true, true, true, true, true, false, false, false, false, false, false]) rfl ?_
            rintro _ w ⟨v_t39, N_t39, rfl, hO_t39, hC⟩
            replace hH := HS.call0 hH hC
            clear hC
            have hS' := hH.pick [2, 3, 4] (Hs' := [_, _, _]) rfl
            replace hS := hS'; clear hS'
            refine ⟨fun _ _ => hS, ?_⟩
            intro a hA
            refine al hA 6 rfl (by kernel_rfl) (lo_call fn30 rfl (mac_any (hg.mono0 hH) _ _ (sha k) (l) (Own.rd0 hO_t37 hH 1 rfl) (Own.rd0 hO_t39 hH 0 rfl) (by simp) (by omega))) rfl (listed' := #[true, true, true, true, true, true, true, false, false, false, false, false]) rfl ?_
            rintro _ w ⟨rfl, hC⟩
            replace hH := HS.call0 hH hC
            clear hC
            have hS' := hH.pick [2, 3, 4] (Hs' := [_, _, _]) rfl
            replace hS := hS'; clear hS'
            refine ⟨fun _ _ => hS, ?_⟩
            intro a hA
            refine apq hA 7 rfl (by kernel_rfl) (by intro c a d v w h; cases d <;> exact h) (fun w => (Runs.bt (q_eqlA8 eqa25 rfl rfl rfl rfl (by first | rfl | assumption | exact sha_length _ | (simp; done) | (simp [*]; done)) (by first | rfl | assumption | exact sha_length _ | (simp; done) | (simp [*]; done))) (by exact macV_sha k l (by omega)))) rfl (listed' := #[true, true, true, true, true, true, true, true, false, false, false, false]) rfl fun a hA => ?_
            refine apq hA 8 rfl (by kernel_rfl) (by intro c a d v w h; cases d <;> exact h) (fun w => (q_move rfl)) rfl (listed' := #[true, true, true, true, true, true, true, true, true, false, false, false]) rfl fun a hA => ?_
            refine agl hA 9 rfl (by kernel_rfl) rfl rfl (lo_call fn29 rfl (awake3_any (hg.mono0 hH))) rfl (listed' := #[true, true, true, true, true, true, true, true, true, true, false, false]) rfl ?_
            rintro _ w ⟨rfl, hC⟩
            replace hH := HS.call0 hH hC
            clear hC
            have hS' := hH.pick [2, 3, 4] (Hs' := [_, _, _]) rfl
            replace hS := hS'; clear hS'
            refine ⟨fun _ _ => hS, ?_⟩
            intro a hA
            refine apq hA 10 rfl (by kernel_rfl) (by intro c a d v w h; cases d <;> exact h) (fun w => (q_pick_t rfl rfl)) rfl (listed' := #[true, true, true, true, true, true, true, true, true, true, true, false]) rfl fun a hA => ?_
            refine apq hA 11 rfl (by kernel_rfl) (by intro c a d v w h; cases d <;> exact h) (fun w => (q_assign rfl)) rfl (listed' := #[true, true, true, true, true, true, true, true, true, true, true, true]) rfl fun a hA => ?_
            refine a_end (by kernel_rfl) ?_ _
            refine hK11 _ _ ?_
            clear hK11
            replace hA := hA.sub (E' := [(6, _), (7, _), (0, _), (1, _), (2, _)]) ⟨rfl, rfl, rfl, rfl, rfl, trivial⟩
            refine wp_ret ?_
            refine then_ret ?_
            refine post_ret hA (res_1 rfl hA rfl) ?_
            replace hH := hH.pick [] (Hs' := []) rfl
            exact ⟨_, rfl, rfl, hH⟩
          · skip
            refine wp_skip ?_
            refine hK9 _ _ ?_
            clear hK9
            replace hA := hA.sub (E' := [(7, _), (6, _), (0, _), (1, _), (2, _)]) ⟨rfl, rfl, rfl, rfl, rfl, trivial⟩
            refine wp_seq_k fun K12 hK12 => ?_
            refine wp_region_lit ?_
            refine sq hA (q_move rfl) rfl fun a hA => ?_
            refine sl hA (lo_call fn31 rfl (own_any _ (k) (hH.rd hu) (by omega))) rfl ?_
            rintro _ w ⟨v_t46, N_t46, rfl, hO_t46, hC⟩ a hA
            replace hH := HS.call0 hH hC
            clear hC
            refine sq hA (q_assign rfl) rfl fun a hA => ?_
            refine wpList_nil ?_
            refine hK12 _ _ ?_
            clear hK12
            replace hA := hA.sub (E' := [(8, _), (7, _), (6, _), (1, _), (2, _)]) ⟨rfl, rfl, rfl, rfl, rfl, trivial⟩
            refine wp_seq_k fun K13 hK13 => ?_
            refine wp_block ?_
            replace hH := HS.fold [_] [_, _, _] hH
            obtain ⟨NR14, hNR14, hH⟩ := hH
            refine wp_loop_ghost (fun gm a w => ∃ j : Nat, ∃ m : Int, ∃ v_o : Value, ∃ N_o : Hl, At 68 [(8, v_o), (7, (.pointer (some ⟨b_t7, 0, none⟩))), (6, (.bool false)), (1, v), (2, I m)] a ∧ HS [] w0 w ([N_o, NR14]) ∧ (k.length + j ≤ 64) ∧ (m ≤ 64) ∧ (Ow B8 5 v_o (k ++ List.replicate j 0#8) N_o) ∧ gm = m.toNat) ((n).toNat) ⟨0, n, v_t46, N_t46, hA.sub ⟨rfl, rfl, rfl, rfl, rfl, trivial⟩, hH, by omega, by omega, by simpa using hO_t46, rfl⟩ ?_
            clear hA hH
            rintro gm a w ⟨j, m, v_o, N_o, hA, hH, hj, hm, hO_o, rfl⟩
            refine wp_seq_k fun K15 hK15 => ?_
            refine wp_seq_k fun K16 hK16 => ?_
            refine wp_region_lit ?_
            refine sq hA (q_move rfl) rfl fun a hA => ?_
            refine sq hA (q_len Tryd.underlying22 rfl (Own.shp hO_o)) rfl fun a hA => ?_
            rw [show (((k ++ List.replicate j 0#8).length : Nat) : Int) = ((k.length + j : Nat) : Int) by simp] at hA
            rcases Classical.em (k.length + j < 64) with hs49 | hs49
            · skip
              refine sq hA (Runs.bt (q_lssI (n := 64) rfl rfl) (by omega)) rfl fun a hA => ?_
              refine sq hA (q_move rfl) rfl fun a hA => ?_
              refine gq hA rfl rfl (q_move rfl) rfl fun a hA => ?_
              rcases Classical.em (0 < m) with hs52 | hs52
              · skip
                refine gq hA rfl rfl (Runs.bt (q_gtrI (n := 0) rfl rfl) (by omega)) rfl fun a hA => ?_
                refine sq hA (q_pick_t rfl rfl) rfl fun a hA => ?_
                refine wpList_nil ?_
                refine hK16 _ _ ?_
                clear hK16
                refine cond_t hA rfl ?_
                refine wp_skip ?_
                refine hK15 _ _ ?_
                clear hK15
                refine wp_block ?_
                refine wp_seq_k fun K17 hK17 => ?_
                refine wp_region_lit ?_
                refine sq hA (q_move rfl) rfl fun a hA => ?_
                refine sl hA (lo_bs (f := B8) (e := 5) ([0#8]) hH rfl rfl (fun w => by kernel_rfl)) rfl ?_
                clear hH; rintro v_t55 w ⟨N_t55, hO_t55, hH⟩ a hA
                replace hH := hH.pick [1, 0, 2] (Hs' := [_, _, _]) rfl
                refine sl hA (lo_appm hH Tryd.underlying22 Tryd.underlying22 (.inl rfl) ti5 rfl rfl rfl hO_o (Rd.src (Own.rd0 hO_t55 hH 1 rfl)) (one_B8 _) (by first | omega | (simp; omega)) (by first | omega | (simp; omega))) rfl ?_
                clear hH; rintro v_t56 w ⟨N_t56, hO_t56, hH⟩ a hA
                refine sq hA (q_assign rfl) rfl fun a hA => ?_
                refine wpList_nil ?_
                refine hK17 _ _ ?_
                clear hK17
                refine wp_region_lit ?_
                refine sq hA (q_move rfl) rfl fun a hA => ?_
                refine sq hA (q_subI (n := 1) rfl rfl (by omega)) rfl fun a hA => ?_
                refine sq hA (q_assign rfl) rfl fun a hA => ?_
                refine wpList_nil ?_
                refine block_normal ?_
                replace hH := hH.pick [0, 2, 1] (Hs' := [_, _, _]) rfl
                replace hH := hH.pick [0, 1] (Hs' := [_, _]) rfl
                exact ⟨_, by omega, j + 1, m - 1, v_t56, N_t56, hA.sub ⟨rfl, rfl, rfl, rfl, rfl, trivial⟩, hH, by omega, by omega, by (rw [List.replicate_succ', ← List.append_assoc]; exact hO_t56), rfl⟩
              · skip
                refine gq hA rfl rfl (Runs.bf (q_gtrI (n := 0) rfl rfl) (by omega)) rfl fun a hA => ?_
                refine sq hA (q_pick_t rfl rfl) rfl fun a hA => ?_
                refine wpList_nil ?_
                refine hK16 _ _ ?_
                clear hK16
                refine cond_f hA rfl ?_
                refine wp_exit ?_
                refine then_exit ?_
                replace hH := HS.unfold [_] hNR14 hH
                refine then_exit ?_
                refine exit_here ?_
                refine hK13 _ _ ?_
                clear hK13
                replace hA := hA.sub (E' := [(8, _), (7, _), (6, _), (1, _)]) ⟨rfl, rfl, rfl, rfl, trivial⟩
                refine wp_seq_k fun K18 hK18 => ?_
                refine any_go mixed (fun _ => true) hH ?_
                clear hH; intro w hH
                have hS := hH
                change wpK _ _ _ _ _ _ 10 #[false, false, false, false, false, false, false, false, false, false] _ _
                refine aq hA 0 rfl (by kernel_rfl) (by intro c a d v w h; cases d <;> exact h) hS (fun w hH => (q_loadW hH 1 rfl Tryd.underlying25 rfl ti25 rfl (by first | omega | (simp; done) | (simp; omega) | (simp [*]; done) | (simp [*]; omega)))) rfl (listed' := #[true, false, false, false, false, false, false, false, false, false]) rfl fun a hA => ?_
                refine apq hA 1 rfl (by kernel_rfl) (by intro c a d v w h; cases d <;> exact h) (fun w => (q_move rfl)) rfl (listed' := #[true, true, false, false, false, false, false, false, false, false]) rfl fun a hA => ?_
                refine apq hA 2 rfl (by kernel_rfl) (by intro c a d v w h; cases d <;> exact h) (fun w => (q_move rfl)) rfl (listed' := #[true, true, true, false, false, false, false, false, false, false]) rfl fun a hA => ?_
                refine al hA 3 rfl (by kernel_rfl) (lo_call fn31 rfl (own_any _ (l) (hH.rd hr) (by omega))) rfl (listed' := #[true, true, true, true, false, false, false, false, false, false]) rfl ?_
                rintro _ w ⟨v_t62, N_t62, rfl, hO_t62, hC⟩
                replace hH := HS.call0 hH hC
                clear hC
                have hS' := hH.pick [1, 2, 3, 4] (Hs' := [_, _, _, _]) rfl
                replace hS := hS'; clear hS'
                refine ⟨fun _ _ => hS, ?_⟩
                intro a hA
                refine al hA 4 rfl (by kernel_rfl) (lo_call fn30 rfl (mac_any (hg.mono0 hH) _ _ (k ++ List.replicate j 0#8) (l) (Own.rd0 hO_o hH 1 rfl) (Own.rd0 hO_t62 hH 0 rfl) (by simp; omega) (by omega))) rfl (listed' := #[true, true, true, true, true, false, false, false, false, false]) rfl ?_
                rintro _ w ⟨rfl, hC⟩
                replace hH := HS.call0 hH hC
                clear hC
                have hS' := hH.pick [1, 2, 3, 4] (Hs' := [_, _, _, _]) rfl
                replace hS := hS'; clear hS'
                refine ⟨fun _ _ => hS, ?_⟩
                intro a hA
                refine apq hA 5 rfl (by kernel_rfl) (by intro c a d v w h; cases d <;> exact h) (fun w => (Runs.bt (q_eqlA8 eqa25 rfl rfl rfl rfl (by first | rfl | assumption | exact sha_length _ | (simp; done) | (simp [*]; done)) (by first | rfl | assumption | exact sha_length _ | (simp; done) | (simp [*]; done))) (by exact macV_pad k l j (by omega)))) rfl (listed' := #[true, true, true, true, true, true, false, false, false, false]) rfl fun a hA => ?_
                refine apq hA 6 rfl (by kernel_rfl) (by intro c a d v w h; cases d <;> exact h) (fun w => (q_move rfl)) rfl (listed' := #[true, true, true, true, true, true, true, false, false, false]) rfl fun a hA => ?_
                refine agl hA 7 rfl (by kernel_rfl) rfl rfl (lo_call fn29 rfl (awake3_any (hg.mono0 hH))) rfl (listed' := #[true, true, true, true, true, true, true, true, false, false]) rfl ?_
                rintro _ w ⟨rfl, hC⟩
                replace hH := HS.call0 hH hC
                clear hC
                have hS' := hH.pick [1, 2, 3, 4] (Hs' := [_, _, _, _]) rfl
                replace hS := hS'; clear hS'
                refine ⟨fun _ _ => hS, ?_⟩
                intro a hA
                refine apq hA 8 rfl (by kernel_rfl) (by intro c a d v w h; cases d <;> exact h) (fun w => (q_pick_t rfl rfl)) rfl (listed' := #[true, true, true, true, true, true, true, true, true, false]) rfl fun a hA => ?_
                refine apq hA 9 rfl (by kernel_rfl) (by intro c a d v w h; cases d <;> exact h) (fun w => (q_assign rfl)) rfl (listed' := #[true, true, true, true, true, true, true, true, true, true]) rfl fun a hA => ?_
                refine a_end (by kernel_rfl) ?_ _
                refine hK18 _ _ ?_
                clear hK18
                replace hA := hA.sub (E' := [(6, _)]) ⟨rfl, trivial⟩
                refine wp_ret ?_
                refine post_ret hA (res_1 rfl hA rfl) ?_
                replace hH := hH.pick [] (Hs' := []) rfl
                exact ⟨_, rfl, rfl, hH⟩
            · skip
              refine sq hA (Runs.bf (q_lssI (n := 64) rfl rfl) (by omega)) rfl fun a hA => ?_
              refine sq hA (q_move rfl) rfl fun a hA => ?_
              refine gs hA rfl rfl rfl rfl fun a hA => ?_
              refine gs hA rfl rfl rfl rfl fun a hA => ?_
              refine sq hA (q_pick_f rfl rfl) rfl fun a hA => ?_
              refine wpList_nil ?_
              refine hK16 _ _ ?_
              clear hK16
              refine cond_f hA rfl ?_
              refine wp_exit ?_
              refine then_exit ?_
              replace hH := HS.unfold [_] hNR14 hH
              refine then_exit ?_
              refine exit_here ?_
              refine hK13 _ _ ?_
              clear hK13
              replace hA := hA.sub (E' := [(8, _), (7, _), (6, _), (1, _)]) ⟨rfl, rfl, rfl, rfl, trivial⟩
              refine wp_seq_k fun K19 hK19 => ?_
              refine any_go mixed (fun _ => true) hH ?_
              clear hH; intro w hH
              have hS := hH
              change wpK _ _ _ _ _ _ 10 #[false, false, false, false, false, false, false, false, false, false] _ _
              refine aq hA 0 rfl (by kernel_rfl) (by intro c a d v w h; cases d <;> exact h) hS (fun w hH => (q_loadW hH 1 rfl Tryd.underlying25 rfl ti25 rfl (by first | omega | (simp; done) | (simp; omega) | (simp [*]; done) | (simp [*]; omega)))) rfl (listed' := #[true, false, false, false, false, false, false, false, false, false]) rfl fun a hA => ?_
              refine apq hA 1 rfl (by kernel_rfl) (by intro c a d v w h; cases d <;> exact h) (fun w => (q_move rfl)) rfl (listed' := #[true, true, false, false, false, false, false, false, false, false]) rfl fun a hA => ?_
              refine apq hA 2 rfl (by kernel_rfl) (by intro c a d v w h; cases d <;> exact h) (fun w => (q_move rfl)) rfl (listed' := #[true, true, true, false, false, false, false, false, false, false]) rfl fun a hA => ?_
              refine al hA 3 rfl (by kernel_rfl) (lo_call fn31 rfl (own_any _ (l) (hH.rd hr) (by omega))) rfl (listed' := #[true, true, true, true, false, false, false, false, false, false]) rfl ?_
              rintro _ w ⟨v_t62, N_t62, rfl, hO_t62, hC⟩
              replace hH := HS.call0 hH hC
              clear hC
              have hS' := hH.pick [1, 2, 3, 4] (Hs' := [_, _, _, _]) rfl
              replace hS := hS'; clear hS'
              refine ⟨fun _ _ => hS, ?_⟩
              intro a hA
              refine al hA 4 rfl (by kernel_rfl) (lo_call fn30 rfl (mac_any (hg.mono0 hH) _ _ (k ++ List.replicate j 0#8) (l) (Own.rd0 hO_o hH 1 rfl) (Own.rd0 hO_t62 hH 0 rfl) (by simp; omega) (by omega))) rfl (listed' := #[true, true, true, true, true, false, false, false, false, false]) rfl ?_
              rintro _ w ⟨rfl, hC⟩
              replace hH := HS.call0 hH hC
              clear hC
              have hS' := hH.pick [1, 2, 3, 4] (Hs' := [_, _, _, _]) rfl
              replace hS := hS'; clear hS'
              refine ⟨fun _ _ => hS, ?_⟩
              intro a hA
              refine apq hA 5 rfl (by kernel_rfl) (by intro c a d v w h; cases d <;> exact h) (fun w => (Runs.bt (q_eqlA8 eqa25 rfl rfl rfl rfl (by first | rfl | assumption | exact sha_length _ | (simp; done) | (simp [*]; done)) (by first | rfl | assumption | exact sha_length _ | (simp; done) | (simp [*]; done))) (by exact macV_pad k l j (by omega)))) rfl (listed' := #[true, true, true, true, true, true, false, false, false, false]) rfl fun a hA => ?_
              refine apq hA 6 rfl (by kernel_rfl) (by intro c a d v w h; cases d <;> exact h) (fun w => (q_move rfl)) rfl (listed' := #[true, true, true, true, true, true, true, false, false, false]) rfl fun a hA => ?_
              refine agl hA 7 rfl (by kernel_rfl) rfl rfl (lo_call fn29 rfl (awake3_any (hg.mono0 hH))) rfl (listed' := #[true, true, true, true, true, true, true, true, false, false]) rfl ?_
              rintro _ w ⟨rfl, hC⟩
              replace hH := HS.call0 hH hC
              clear hC
              have hS' := hH.pick [1, 2, 3, 4] (Hs' := [_, _, _, _]) rfl
              replace hS := hS'; clear hS'
              refine ⟨fun _ _ => hS, ?_⟩
              intro a hA
              refine apq hA 8 rfl (by kernel_rfl) (by intro c a d v w h; cases d <;> exact h) (fun w => (q_pick_t rfl rfl)) rfl (listed' := #[true, true, true, true, true, true, true, true, true, false]) rfl fun a hA => ?_
              refine apq hA 9 rfl (by kernel_rfl) (by intro c a d v w h; cases d <;> exact h) (fun w => (q_assign rfl)) rfl (listed' := #[true, true, true, true, true, true, true, true, true, true]) rfl fun a hA => ?_
              refine a_end (by kernel_rfl) ?_ _
              refine hK19 _ _ ?_
              clear hK19
              replace hA := hA.sub (E' := [(6, _)]) ⟨rfl, trivial⟩
              refine wp_ret ?_
              refine post_ret hA (res_1 rfl hA rfl) ?_
              replace hH := hH.pick [] (Hs' := []) rfl
              exact ⟨_, rfl, rfl, hH⟩

end Go.Proofs.YtegjkoohpkchbaaDoor
