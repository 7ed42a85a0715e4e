/- Layer 17 (token), the program's and the document's. -/
import Derived.Test.YtokcbfklogjnfaaDoorEc
import Derived.Test.YtokcbfklogjnfaaDoorBx
import Derived.Test.YtokcbfklogjnfaaDoorMs
import Derived.Test.YtokcbfklogjnfaaDoorMk
namespace Go.Proofs.YtokcbfklogjnfaaDoor
open Go
set_option linter.unusedVariables false
set_option linter.unusedSimpArgs false
set_option maxRecDepth 100000

theorem fields_any {w0 : World} (b_r : Nat) :
    Calls Tryd.prog 41 #[(.pointer (some ⟨b_r, 0, none⟩))] w0 (Ret fun r w' => r = (.agg ((List.range 6).map (pb b_r)).toArray) ∧ HS [] w0 w' []) := by
  have hH := HS.start w0
  refine start (n := 22) (E := [(0, _)]) Tryd.func41 rfl rfl rfl (args_look rfl) ?_
  intro a hA
  refine wp_seq_k fun K1 hK1 => ?_
  refine wp_region_lit ?_
  refine sl hA (lo_allocA hH ti70) rfl ?_
  clear hH; rintro _ w ⟨b_t2, rfl, hH⟩ a hA
  refine wpList_nil ?_
  refine hK1 _ _ ?_
  clear hK1
  refine wp_seq_k fun K2 hK2 => ?_
  refine any_go mixed (fun j => !(Nat.beq j 19)) hH ?_
  clear hH; intro w hH
  have hS := hH
  change wpK _ _ _ _ _ _ 20 #[false, false, false, false, false, false, false, false, false, false, false, false, false, false, false, false, false, false, false, false] _ _
  refine apq hA 0 rfl (by kernel_rfl) (by intro c a d v w h; cases d <;> exact h) (fun w => (q_move rfl)) rfl (listed' := #[true, false, false, false, false, false, false, false, false, false, false, false, false, false, false, false, false, false, false, false]) rfl fun a hA => ?_
  refine apq hA 1 rfl (by kernel_rfl) (by intro c a d v w h; cases d <;> exact h) (fun w => (q_nilCheck rfl)) rfl (listed' := #[true, true, false, false, false, false, false, false, false, false, false, false, false, false, false, false, false, false, false, false]) rfl fun a hA => ?_
  refine apq hA 2 rfl (by kernel_rfl) (by intro c a d v w h; cases d <;> exact h) (fun w => (q_fld 0 Tryd.underlying44 rfl rfl ti3 rfl)) rfl (listed' := #[true, true, true, false, false, false, false, false, false, false, false, false, false, false, false, false, false, false, false, false]) rfl fun a hA => ?_
  refine apq hA 3 rfl (by kernel_rfl) (by intro c a d v w h; cases d <;> exact h) (fun w => (q_move rfl)) rfl (listed' := #[true, true, true, true, false, false, false, false, false, false, false, false, false, false, false, false, false, false, false, false]) rfl fun a hA => ?_
  refine apq hA 4 rfl (by kernel_rfl) (by intro c a d v w h; cases d <;> exact h) (fun w => (q_nilCheck rfl)) rfl (listed' := #[true, true, true, true, true, false, false, false, false, false, false, false, false, false, false, false, false, false, false, false]) rfl fun a hA => ?_
  refine apq hA 5 rfl (by kernel_rfl) (by intro c a d v w h; cases d <;> exact h) (fun w => (q_fld 1 Tryd.underlying44 rfl rfl ti3 rfl)) rfl (listed' := #[true, true, true, true, true, true, false, false, false, false, false, false, false, false, false, false, false, false, false, false]) rfl fun a hA => ?_
  refine apq hA 6 rfl (by kernel_rfl) (by intro c a d v w h; cases d <;> exact h) (fun w => (q_move rfl)) rfl (listed' := #[true, true, true, true, true, true, true, false, false, false, false, false, false, false, false, false, false, false, false, false]) rfl fun a hA => ?_
  refine apq hA 7 rfl (by kernel_rfl) (by intro c a d v w h; cases d <;> exact h) (fun w => (q_nilCheck rfl)) rfl (listed' := #[true, true, true, true, true, true, true, true, false, false, false, false, false, false, false, false, false, false, false, false]) rfl fun a hA => ?_
  refine apq hA 8 rfl (by kernel_rfl) (by intro c a d v w h; cases d <;> exact h) (fun w => (q_fld 2 Tryd.underlying44 rfl rfl ti3 rfl)) rfl (listed' := #[true, true, true, true, true, true, true, true, true, false, false, false, false, false, false, false, false, false, false, false]) rfl fun a hA => ?_
  refine apq hA 9 rfl (by kernel_rfl) (by intro c a d v w h; cases d <;> exact h) (fun w => (q_move rfl)) rfl (listed' := #[true, true, true, true, true, true, true, true, true, true, false, false, false, false, false, false, false, false, false, false]) rfl fun a hA => ?_
  refine apq hA 10 rfl (by kernel_rfl) (by intro c a d v w h; cases d <;> exact h) (fun w => (q_nilCheck rfl)) rfl (listed' := #[true, true, true, true, true, true, true, true, true, true, true, false, false, false, false, false, false, false, false, false]) rfl fun a hA => ?_
  refine apq hA 11 rfl (by kernel_rfl) (by intro c a d v w h; cases d <;> exact h) (fun w => (q_fld 3 Tryd.underlying44 rfl rfl ti3 rfl)) rfl (listed' := #[true, true, true, true, true, true, true, true, true, true, true, true, false, false, false, false, false, false, false, false]) rfl fun a hA => ?_
  refine apq hA 12 rfl (by kernel_rfl) (by intro c a d v w h; cases d <;> exact h) (fun w => (q_move rfl)) rfl (listed' := #[true, true, true, true, true, true, true, true, true, true, true, true, true, false, false, false, false, false, false, false]) rfl fun a hA => ?_
  refine apq hA 13 rfl (by kernel_rfl) (by intro c a d v w h; cases d <;> exact h) (fun w => (q_nilCheck rfl)) rfl (listed' := #[true, true, true, true, true, true, true, true, true, true, true, true, true, true, false, false, false, false, false, false]) rfl fun a hA => ?_
  refine apq hA 14 rfl (by kernel_rfl) (by intro c a d v w h; cases d <;> exact h) (fun w => (q_fld 4 Tryd.underlying44 rfl rfl ti3 rfl)) rfl (listed' := #[true, true, true, true, true, true, true, true, true, true, true, true, true, true, true, false, false, false, false, false]) rfl fun a hA => ?_
  refine apq hA 15 rfl (by kernel_rfl) (by intro c a d v w h; cases d <;> exact h) (fun w => (q_move rfl)) rfl (listed' := #[true, true, true, true, true, true, true, true, true, true, true, true, true, true, true, true, false, false, false, false]) rfl fun a hA => ?_
  refine apq hA 16 rfl (by kernel_rfl) (by intro c a d v w h; cases d <;> exact h) (fun w => (q_nilCheck rfl)) rfl (listed' := #[true, true, true, true, true, true, true, true, true, true, true, true, true, true, true, true, true, false, false, false]) rfl fun a hA => ?_
  refine apq hA 17 rfl (by kernel_rfl) (by intro c a d v w h; cases d <;> exact h) (fun w => (q_fld 5 Tryd.underlying44 rfl rfl ti3 rfl)) rfl (listed' := #[true, true, true, true, true, true, true, true, true, true, true, true, true, true, true, true, true, true, false, false]) rfl fun a hA => ?_
  refine apq hA 18 rfl (by kernel_rfl) (by intro c a d v w h; cases d <;> exact h) (fun w => (q_build (v := .agg ((List.range 6).map (pb b_r)).toArray) (vs := [(0, pb b_r 0), (1, pb b_r 1), (2, pb b_r 2), (3, pb b_r 3), (4, pb b_r 4), (5, pb b_r 5)]) rfl (fun w => run_build w _ _ _ (by kernel_rfl)))) rfl (listed' := #[true, true, true, true, true, true, true, true, true, true, true, true, true, true, true, true, true, true, true, false]) rfl fun a hA => ?_
  refine al0 hA 19 rfl (by kernel_rfl) (lo_storeAm hH ti70 rfl rfl (by rfl) (by rfl) (by intro u hu; obtain ⟨j, _, rfl⟩ := List.mem_map.1 hu; rfl)) (listed' := #[true, true, true, true, true, true, true, true, true, true, true, true, true, true, true, true, true, true, true, true]) rfl ?_
  clear hH; rintro _ w hH
  refine ⟨fun _ h => absurd h (by decide), ?_⟩
  refine a_end (by kernel_rfl) ?_ _
  refine hK2 _ _ ?_
  clear hK2
  replace hA := hA.sub (E' := [(2, _)]) ⟨rfl, trivial⟩
  refine wp_ret ?_
  refine post_ret hA (res_c rfl hA rfl (resW hH 0 rfl Tryd.underlying70 rfl ti70 (by rfl))) ?_
  replace hH := hH.pick [] (Hs' := []) rfl
  exact ⟨_, rfl, rfl, hH⟩

theorem in_any {w0 : World} (n : Int) :
    Calls Tryd.prog 50 #[I n] w0 (Ret fun r w' => r = .bool (decide (inT n)) ∧ HS [] w0 w' []) := by
  have hH := HS.start w0
  refine start (n := 9) (E := [(0, _)]) Tryd.func50 rfl rfl rfl (args_look rfl) ?_
  intro a hA
  refine wp_seq_k fun K1 hK1 => ?_
  refine wp_region_lit ?_
  refine sq hA (q_assign rfl) rfl fun a hA => ?_
  refine wpList_nil ?_
  refine hK1 _ _ ?_
  clear hK1
  refine wp_seq_k fun K2 hK2 => ?_
  refine wp_region_lit ?_
  refine sq hA (q_move rfl) rfl fun a hA => ?_
  refine sq hA (q_geqI (n := 0) rfl rfl) rfl fun a hA => ?_
  refine hA.spl (fun hs4 hA => ?_) (fun hs4 hA => ?_)
  · skip
    refine sq hA (q_move rfl) rfl fun a hA => ?_
    refine gq hA rfl rfl (q_move rfl) rfl fun a hA => ?_
    refine gq hA rfl rfl (q_leqI (n := 1099511627776) rfl rfl) rfl fun a hA => ?_
    refine sq hA (q_pick_t rfl rfl) rfl fun a hA => ?_
    refine sq hA (q_assign rfl) rfl fun a hA => ?_
    refine wpList_nil ?_
    refine hK2 _ _ ?_
    clear hK2
    replace hA := hA.sub (E' := [(2, _)]) ⟨rfl, trivial⟩
    refine wp_ret ?_
    refine post_ret hA (res_1 rfl hA rfl) ?_
    exact ⟨_, rfl, by simp [inT, hs4], hH⟩
  · skip
    refine sq hA (q_move rfl) rfl fun a hA => ?_
    refine gs hA rfl rfl rfl rfl fun a hA => ?_
    refine gs hA rfl rfl rfl rfl fun a hA => ?_
    refine sq hA (q_pick_f rfl rfl) rfl fun a hA => ?_
    refine sq hA (q_assign rfl) rfl fun a hA => ?_
    refine wpList_nil ?_
    refine hK2 _ _ ?_
    clear hK2
    replace hA := hA.sub (E' := [(2, _)]) ⟨rfl, trivial⟩
    refine wp_ret ?_
    refine post_ret hA (res_1 rfl hA rfl) ?_
    exact ⟨_, rfl, by simp [inT, hs4], hH⟩

theorem rightT_any {w0 : World} (ts : List Int) (hts : ts.length = 6) :
    Calls Tryd.prog 27 #[(.agg ((ts).map I).toArray)] w0 (Ret fun r w' => r = .bool (decide (RtT ts)) ∧ HS [] w0 w' []) := by
  have hH := HS.start w0
  refine start (n := 31) (E := [(0, _)]) Tryd.func27 rfl rfl rfl (args_look rfl) ?_
  intro a hA
  refine wp_seq_k fun K1 hK1 => ?_
  refine wp_region_lit ?_
  refine sl hA (lo_boxA hH rfl) rfl ?_
  clear hH; rintro _ w ⟨b_t1, rfl, hH⟩ a hA
  refine sq hA (q_assign rfl) rfl fun a hA => ?_
  refine wpList_nil ?_
  refine hK1 _ _ ?_
  clear hK1
  replace hA := hA.sub (E' := [(2, _), (1, _)]) ⟨rfl, rfl, trivial⟩
  refine wp_seq_k fun K2 hK2 => ?_
  refine wp_region_lit ?_
  refine sq hA (q_fld 0 Tryd.underlying44 rfl rfl ti3 rfl) rfl fun a hA => ?_
  refine sq hA (q_loadBm ((0 : Int)) hH 0 rfl Tryd.underlying3 rfl rfl (by first | omega | (simp; done) | (simp; omega) | (rw [List.length_map]; assumption) | assumption | rfl | (simp [*]; done) | (simp [*]; omega))) rfl fun a hA => ?_
  refine sl hA (lo_call fn50 rfl (in_any _)) rfl ?_
  rintro _ w ⟨rfl, hC⟩ a hA
  replace hH := HS.call0 hH hC
  clear hC
  refine hA.spl (fun hs5 hA => ?_) (fun hs5 hA => ?_)
  · skip
    refine sq hA (q_move rfl) rfl fun a hA => ?_
    refine gq hA rfl rfl (q_fld 1 Tryd.underlying44 rfl rfl ti3 rfl) rfl fun a hA => ?_
    refine gq hA rfl rfl (q_loadBm ((0 : Int)) hH 0 rfl Tryd.underlying3 rfl rfl (by first | omega | (simp; done) | (simp; omega) | (rw [List.length_map]; assumption) | assumption | rfl | (simp [*]; done) | (simp [*]; omega))) rfl fun a hA => ?_
    refine gl hA rfl rfl (lo_call fn50 rfl (in_any _)) rfl ?_
    rintro _ w ⟨rfl, hC⟩ a hA
    replace hH := HS.call0 hH hC
    clear hC
    refine sq hA (q_pick_t rfl rfl) rfl fun a hA => ?_
    refine hA.spl (fun hs10 hA => ?_) (fun hs10 hA => ?_)
    · skip
      refine sq hA (q_move rfl) rfl fun a hA => ?_
      refine gq hA rfl rfl (q_fld 2 Tryd.underlying44 rfl rfl ti3 rfl) rfl fun a hA => ?_
      refine gq hA rfl rfl (q_loadBm ((0 : Int)) hH 0 rfl Tryd.underlying3 rfl rfl (by first | omega | (simp; done) | (simp; omega) | (rw [List.length_map]; assumption) | assumption | rfl | (simp [*]; done) | (simp [*]; omega))) rfl fun a hA => ?_
      refine gl hA rfl rfl (lo_call fn50 rfl (in_any _)) rfl ?_
      rintro _ w ⟨rfl, hC⟩ a hA
      replace hH := HS.call0 hH hC
      clear hC
      refine sq hA (q_pick_t rfl rfl) rfl fun a hA => ?_
      refine hA.spl (fun hs15 hA => ?_) (fun hs15 hA => ?_)
      · skip
        refine sq hA (q_move rfl) rfl fun a hA => ?_
        refine gq hA rfl rfl (q_fld 3 Tryd.underlying44 rfl rfl ti3 rfl) rfl fun a hA => ?_
        refine gq hA rfl rfl (q_loadBm ((0 : Int)) hH 0 rfl Tryd.underlying3 rfl rfl (by first | omega | (simp; done) | (simp; omega) | (rw [List.length_map]; assumption) | assumption | rfl | (simp [*]; done) | (simp [*]; omega))) rfl fun a hA => ?_
        refine gl hA rfl rfl (lo_call fn50 rfl (in_any _)) rfl ?_
        rintro _ w ⟨rfl, hC⟩ a hA
        replace hH := HS.call0 hH hC
        clear hC
        refine sq hA (q_pick_t rfl rfl) rfl fun a hA => ?_
        refine hA.spl (fun hs20 hA => ?_) (fun hs20 hA => ?_)
        · skip
          refine sq hA (q_move rfl) rfl fun a hA => ?_
          refine gq hA rfl rfl (q_fld 4 Tryd.underlying44 rfl rfl ti3 rfl) rfl fun a hA => ?_
          refine gq hA rfl rfl (q_loadBm ((0 : Int)) hH 0 rfl Tryd.underlying3 rfl rfl (by first | omega | (simp; done) | (simp; omega) | (rw [List.length_map]; assumption) | assumption | rfl | (simp [*]; done) | (simp [*]; omega))) rfl fun a hA => ?_
          refine gl hA rfl rfl (lo_call fn50 rfl (in_any _)) rfl ?_
          rintro _ w ⟨rfl, hC⟩ a hA
          replace hH := HS.call0 hH hC
          clear hC
          refine sq hA (q_pick_t rfl rfl) rfl fun a hA => ?_
          refine hA.spl (fun hs25 hA => ?_) (fun hs25 hA => ?_)
          · skip
            refine sq hA (q_move rfl) rfl fun a hA => ?_
            refine gq hA rfl rfl (q_fld 5 Tryd.underlying44 rfl rfl ti3 rfl) rfl fun a hA => ?_
            refine gq hA rfl rfl (q_loadBm ((0 : Int)) hH 0 rfl Tryd.underlying3 rfl rfl (by first | omega | (simp; done) | (simp; omega) | (rw [List.length_map]; assumption) | assumption | rfl | (simp [*]; done) | (simp [*]; omega))) rfl fun a hA => ?_
            refine gl hA rfl rfl (lo_call fn50 rfl (in_any _)) rfl ?_
            rintro _ w ⟨rfl, hC⟩ a hA
            replace hH := HS.call0 hH hC
            clear hC
            refine sq hA (q_pick_t rfl rfl) rfl fun a hA => ?_
            refine sq hA (q_assign rfl) rfl fun a hA => ?_
            refine wpList_nil ?_
            refine hK2 _ _ ?_
            clear hK2
            replace hA := hA.sub (E' := [(2, _)]) ⟨rfl, trivial⟩
            refine wp_ret ?_
            refine post_ret hA (res_1 rfl hA rfl) ?_
            replace hH := hH.pick [] (Hs' := []) rfl
            have e := rt6 hts
            first | exact ⟨_, rfl, by congr 1; exact decide_eq_decide.2 ⟨fun h => e.2 ⟨hs5, hs10, hs15, hs20, hs25, h⟩, fun h => (e.1 h).2.2.2.2.2⟩, hH⟩ | exact ⟨_, rfl, by rw [decide_eq_false (fun h => hs5 (e.1 h).1)], hH⟩ | exact ⟨_, rfl, by rw [decide_eq_false (fun h => hs10 (e.1 h).2.1)], hH⟩ | exact ⟨_, rfl, by rw [decide_eq_false (fun h => hs15 (e.1 h).2.2.1)], hH⟩ | exact ⟨_, rfl, by rw [decide_eq_false (fun h => hs20 (e.1 h).2.2.2.1)], hH⟩ | exact ⟨_, rfl, by rw [decide_eq_false (fun h => hs25 (e.1 h).2.2.2.2.1)], hH⟩
          · skip
            refine sq hA (q_move rfl) rfl fun a hA => ?_
            refine gs hA rfl rfl rfl rfl fun a hA => ?_
            refine gs hA rfl rfl rfl rfl fun a hA => ?_
            refine gs hA rfl rfl rfl rfl fun a hA => ?_
            refine sq hA (q_pick_f rfl rfl) rfl fun a hA => ?_
            refine sq hA (q_assign rfl) rfl fun a hA => ?_
            refine wpList_nil ?_
            refine hK2 _ _ ?_
            clear hK2
            replace hA := hA.sub (E' := [(2, _)]) ⟨rfl, trivial⟩
            refine wp_ret ?_
            refine post_ret hA (res_1 rfl hA rfl) ?_
            replace hH := hH.pick [] (Hs' := []) rfl
            have e := rt6 hts
            first | exact ⟨_, rfl, by congr 1; exact decide_eq_decide.2 ⟨fun h => e.2 ⟨hs5, hs10, hs15, hs20, hs25, h⟩, fun h => (e.1 h).2.2.2.2.2⟩, hH⟩ | exact ⟨_, rfl, by rw [decide_eq_false (fun h => hs5 (e.1 h).1)], hH⟩ | exact ⟨_, rfl, by rw [decide_eq_false (fun h => hs10 (e.1 h).2.1)], hH⟩ | exact ⟨_, rfl, by rw [decide_eq_false (fun h => hs15 (e.1 h).2.2.1)], hH⟩ | exact ⟨_, rfl, by rw [decide_eq_false (fun h => hs20 (e.1 h).2.2.2.1)], hH⟩ | exact ⟨_, rfl, by rw [decide_eq_false (fun h => hs25 (e.1 h).2.2.2.2.1)], hH⟩
        · skip
          refine sq hA (q_move rfl) rfl fun a hA => ?_
          refine gs hA rfl rfl rfl rfl fun a hA => ?_
          refine gs hA rfl rfl rfl rfl fun a hA => ?_
          refine gs hA rfl rfl rfl rfl fun a hA => ?_
          refine sq hA (q_pick_f rfl rfl) rfl fun a hA => ?_
          refine sq hA (q_move rfl) rfl fun a hA => ?_
          refine gs hA rfl rfl rfl rfl fun a hA => ?_
          refine gs hA rfl rfl rfl rfl fun a hA => ?_
          refine gs hA rfl rfl rfl rfl fun a hA => ?_
          refine sq hA (q_pick_f rfl rfl) rfl fun a hA => ?_
          refine sq hA (q_assign rfl) rfl fun a hA => ?_
          refine wpList_nil ?_
          refine hK2 _ _ ?_
          clear hK2
          replace hA := hA.sub (E' := [(2, _)]) ⟨rfl, trivial⟩
          refine wp_ret ?_
          refine post_ret hA (res_1 rfl hA rfl) ?_
          replace hH := hH.pick [] (Hs' := []) rfl
          have e := rt6 hts
          first | exact ⟨_, rfl, by congr 1; exact decide_eq_decide.2 ⟨fun h => e.2 ⟨hs5, hs10, hs15, hs20, hs25, h⟩, fun h => (e.1 h).2.2.2.2.2⟩, hH⟩ | exact ⟨_, rfl, by rw [decide_eq_false (fun h => hs5 (e.1 h).1)], hH⟩ | exact ⟨_, rfl, by rw [decide_eq_false (fun h => hs10 (e.1 h).2.1)], hH⟩ | exact ⟨_, rfl, by rw [decide_eq_false (fun h => hs15 (e.1 h).2.2.1)], hH⟩ | exact ⟨_, rfl, by rw [decide_eq_false (fun h => hs20 (e.1 h).2.2.2.1)], hH⟩ | exact ⟨_, rfl, by rw [decide_eq_false (fun h => hs25 (e.1 h).2.2.2.2.1)], hH⟩
      · skip
        refine sq hA (q_move rfl) rfl fun a hA => ?_
        refine gs hA rfl rfl rfl rfl fun a hA => ?_
        refine gs hA rfl rfl rfl rfl fun a hA => ?_
        refine gs hA rfl rfl rfl rfl fun a hA => ?_
        refine sq hA (q_pick_f rfl rfl) rfl fun a hA => ?_
        refine sq hA (q_move rfl) rfl fun a hA => ?_
        refine gs hA rfl rfl rfl rfl fun a hA => ?_
        refine gs hA rfl rfl rfl rfl fun a hA => ?_
        refine gs hA rfl rfl rfl rfl fun a hA => ?_
        refine sq hA (q_pick_f rfl rfl) rfl fun a hA => ?_
        refine sq hA (q_move rfl) rfl fun a hA => ?_
        refine gs hA rfl rfl rfl rfl fun a hA => ?_
        refine gs hA rfl rfl rfl rfl fun a hA => ?_
        refine gs hA rfl rfl rfl rfl fun a hA => ?_
        refine sq hA (q_pick_f rfl rfl) rfl fun a hA => ?_
        refine sq hA (q_assign rfl) rfl fun a hA => ?_
        refine wpList_nil ?_
        refine hK2 _ _ ?_
        clear hK2
        replace hA := hA.sub (E' := [(2, _)]) ⟨rfl, trivial⟩
        refine wp_ret ?_
        refine post_ret hA (res_1 rfl hA rfl) ?_
        replace hH := hH.pick [] (Hs' := []) rfl
        have e := rt6 hts
        first | exact ⟨_, rfl, by congr 1; exact decide_eq_decide.2 ⟨fun h => e.2 ⟨hs5, hs10, hs15, hs20, hs25, h⟩, fun h => (e.1 h).2.2.2.2.2⟩, hH⟩ | exact ⟨_, rfl, by rw [decide_eq_false (fun h => hs5 (e.1 h).1)], hH⟩ | exact ⟨_, rfl, by rw [decide_eq_false (fun h => hs10 (e.1 h).2.1)], hH⟩ | exact ⟨_, rfl, by rw [decide_eq_false (fun h => hs15 (e.1 h).2.2.1)], hH⟩ | exact ⟨_, rfl, by rw [decide_eq_false (fun h => hs20 (e.1 h).2.2.2.1)], hH⟩ | exact ⟨_, rfl, by rw [decide_eq_false (fun h => hs25 (e.1 h).2.2.2.2.1)], hH⟩
    · skip
      refine sq hA (q_move rfl) rfl fun a hA => ?_
      refine gs hA rfl rfl rfl rfl fun a hA => ?_
      refine gs hA rfl rfl rfl rfl fun a hA => ?_
      refine gs hA rfl rfl rfl rfl fun a hA => ?_
      refine sq hA (q_pick_f rfl rfl) rfl fun a hA => ?_
      refine sq hA (q_move rfl) rfl fun a hA => ?_
      refine gs hA rfl rfl rfl rfl fun a hA => ?_
      refine gs hA rfl rfl rfl rfl fun a hA => ?_
      refine gs hA rfl rfl rfl rfl fun a hA => ?_
      refine sq hA (q_pick_f rfl rfl) rfl fun a hA => ?_
      refine sq hA (q_move rfl) rfl fun a hA => ?_
      refine gs hA rfl rfl rfl rfl fun a hA => ?_
      refine gs hA rfl rfl rfl rfl fun a hA => ?_
      refine gs hA rfl rfl rfl rfl fun a hA => ?_
      refine sq hA (q_pick_f rfl rfl) rfl fun a hA => ?_
      refine sq hA (q_move rfl) rfl fun a hA => ?_
      refine gs hA rfl rfl rfl rfl fun a hA => ?_
      refine gs hA rfl rfl rfl rfl fun a hA => ?_
      refine gs hA rfl rfl rfl rfl fun a hA => ?_
      refine sq hA (q_pick_f rfl rfl) rfl fun a hA => ?_
      refine sq hA (q_assign rfl) rfl fun a hA => ?_
      refine wpList_nil ?_
      refine hK2 _ _ ?_
      clear hK2
      replace hA := hA.sub (E' := [(2, _)]) ⟨rfl, trivial⟩
      refine wp_ret ?_
      refine post_ret hA (res_1 rfl hA rfl) ?_
      replace hH := hH.pick [] (Hs' := []) rfl
      have e := rt6 hts
      first | exact ⟨_, rfl, by congr 1; exact decide_eq_decide.2 ⟨fun h => e.2 ⟨hs5, hs10, hs15, hs20, hs25, h⟩, fun h => (e.1 h).2.2.2.2.2⟩, hH⟩ | exact ⟨_, rfl, by rw [decide_eq_false (fun h => hs5 (e.1 h).1)], hH⟩ | exact ⟨_, rfl, by rw [decide_eq_false (fun h => hs10 (e.1 h).2.1)], hH⟩ | exact ⟨_, rfl, by rw [decide_eq_false (fun h => hs15 (e.1 h).2.2.1)], hH⟩ | exact ⟨_, rfl, by rw [decide_eq_false (fun h => hs20 (e.1 h).2.2.2.1)], hH⟩ | exact ⟨_, rfl, by rw [decide_eq_false (fun h => hs25 (e.1 h).2.2.2.2.1)], hH⟩
  · skip
    refine sq hA (q_move rfl) rfl fun a hA => ?_
    refine gs hA rfl rfl rfl rfl fun a hA => ?_
    refine gs hA rfl rfl rfl rfl fun a hA => ?_
    refine gs hA rfl rfl rfl rfl fun a hA => ?_
    refine sq hA (q_pick_f rfl rfl) rfl fun a hA => ?_
    refine sq hA (q_move rfl) rfl fun a hA => ?_
    refine gs hA rfl rfl rfl rfl fun a hA => ?_
    refine gs hA rfl rfl rfl rfl fun a hA => ?_
    refine gs hA rfl rfl rfl rfl fun a hA => ?_
    refine sq hA (q_pick_f rfl rfl) rfl fun a hA => ?_
    refine sq hA (q_move rfl) rfl fun a hA => ?_
    refine gs hA rfl rfl rfl rfl fun a hA => ?_
    refine gs hA rfl rfl rfl rfl fun a hA => ?_
    refine gs hA rfl rfl rfl rfl fun a hA => ?_
    refine sq hA (q_pick_f rfl rfl) rfl fun a hA => ?_
    refine sq hA (q_move rfl) rfl fun a hA => ?_
    refine gs hA rfl rfl rfl rfl fun a hA => ?_
    refine gs hA rfl rfl rfl rfl fun a hA => ?_
    refine gs hA rfl rfl rfl rfl fun a hA => ?_
    refine sq hA (q_pick_f rfl rfl) rfl fun a hA => ?_
    refine sq hA (q_move rfl) rfl fun a hA => ?_
    refine gs hA rfl rfl rfl rfl fun a hA => ?_
    refine gs hA rfl rfl rfl rfl fun a hA => ?_
    refine gs hA rfl rfl rfl rfl fun a hA => ?_
    refine sq hA (q_pick_f rfl rfl) rfl fun a hA => ?_
    refine sq hA (q_assign rfl) rfl fun a hA => ?_
    refine wpList_nil ?_
    refine hK2 _ _ ?_
    clear hK2
    replace hA := hA.sub (E' := [(2, _)]) ⟨rfl, trivial⟩
    refine wp_ret ?_
    refine post_ret hA (res_1 rfl hA rfl) ?_
    replace hH := hH.pick [] (Hs' := []) rfl
    have e := rt6 hts
    first | exact ⟨_, rfl, by congr 1; exact decide_eq_decide.2 ⟨fun h => e.2 ⟨hs5, hs10, hs15, hs20, hs25, h⟩, fun h => (e.1 h).2.2.2.2.2⟩, hH⟩ | exact ⟨_, rfl, by rw [decide_eq_false (fun h => hs5 (e.1 h).1)], hH⟩ | exact ⟨_, rfl, by rw [decide_eq_false (fun h => hs10 (e.1 h).2.1)], hH⟩ | exact ⟨_, rfl, by rw [decide_eq_false (fun h => hs15 (e.1 h).2.2.1)], hH⟩ | exact ⟨_, rfl, by rw [decide_eq_false (fun h => hs20 (e.1 h).2.2.2.1)], hH⟩ | exact ⟨_, rfl, by rw [decide_eq_false (fun h => hs25 (e.1 h).2.2.2.2.1)], hH⟩

theorem bodyT_any {w0 : World} (ts : List Int) (hts : ts.length = 6) (hrt : RtT ts) :
    Calls Tryd.prog 51 #[(.agg ((ts).map I).toArray)] w0 (Ret fun r w' => ∃ v' N, v' = r ∧ Ow B8 5 v' (bodyT ts) N ∧ HS [] w0 w' [N]) := by
  have hH := HS.start w0
  refine start (n := 34) (E := [(0, _)]) Tryd.func51 rfl rfl rfl (args_look rfl) ?_
  intro a hA
  refine wp_seq_k fun K1 hK1 => ?_
  refine wp_region_lit ?_
  refine sl hA (lo_boxA hH rfl) rfl ?_
  clear hH; rintro _ w ⟨b_t1, rfl, hH⟩ a hA
  refine sq hA (q_assign rfl) rfl fun a hA => ?_
  refine wpList_nil ?_
  refine hK1 _ _ ?_
  clear hK1
  replace hA := hA.sub (E' := [(2, _), (1, _)]) ⟨rfl, rfl, trivial⟩
  refine wp_seq_k fun K2 hK2 => ?_
  refine wp_region_lit ?_
  refine sq hA (q_assign rfl) rfl fun a hA => ?_
  refine wpList_nil ?_
  refine hK2 _ _ ?_
  clear hK2
  refine wp_seq_k fun K3 hK3 => ?_
  refine wp_region_lit ?_
  refine sq hA (q_fld 0 Tryd.underlying44 rfl rfl ti3 rfl) rfl fun a hA => ?_
  refine sq hA (q_loadBm ((0 : Int)) hH 0 rfl Tryd.underlying3 rfl rfl (by first | omega | (simp; done) | (simp; omega) | (rw [List.length_map]; assumption) | assumption | rfl | (simp [*]; done) | (simp [*]; omega))) rfl fun a hA => ?_
  refine sq hA (q_fld 1 Tryd.underlying44 rfl rfl ti3 rfl) rfl fun a hA => ?_
  refine sq hA (q_loadBm ((0 : Int)) hH 0 rfl Tryd.underlying3 rfl rfl (by first | omega | (simp; done) | (simp; omega) | (rw [List.length_map]; assumption) | assumption | rfl | (simp [*]; done) | (simp [*]; omega))) rfl fun a hA => ?_
  refine sq hA (q_fld 2 Tryd.underlying44 rfl rfl ti3 rfl) rfl fun a hA => ?_
  refine sq hA (q_loadBm ((0 : Int)) hH 0 rfl Tryd.underlying3 rfl rfl (by first | omega | (simp; done) | (simp; omega) | (rw [List.length_map]; assumption) | assumption | rfl | (simp [*]; done) | (simp [*]; omega))) rfl fun a hA => ?_
  refine sq hA (q_fld 3 Tryd.underlying44 rfl rfl ti3 rfl) rfl fun a hA => ?_
  refine sq hA (q_loadBm ((0 : Int)) hH 0 rfl Tryd.underlying3 rfl rfl (by first | omega | (simp; done) | (simp; omega) | (rw [List.length_map]; assumption) | assumption | rfl | (simp [*]; done) | (simp [*]; omega))) rfl fun a hA => ?_
  refine sq hA (q_fld 4 Tryd.underlying44 rfl rfl ti3 rfl) rfl fun a hA => ?_
  refine sq hA (q_loadBm ((0 : Int)) hH 0 rfl Tryd.underlying3 rfl rfl (by first | omega | (simp; done) | (simp; omega) | (rw [List.length_map]; assumption) | assumption | rfl | (simp [*]; done) | (simp [*]; omega))) rfl fun a hA => ?_
  refine sq hA (q_fld 5 Tryd.underlying44 rfl rfl ti3 rfl) rfl fun a hA => ?_
  refine sq hA (q_loadBm ((0 : Int)) hH 0 rfl Tryd.underlying3 rfl rfl (by first | omega | (simp; done) | (simp; omega) | (rw [List.length_map]; assumption) | assumption | rfl | (simp [*]; done) | (simp [*]; omega))) rfl fun a hA => ?_
  refine sl hA (lo_bs (f := I) (e := 3) ([(ts.getD 0 0), (ts.getD 1 0), (ts.getD 2 0), (ts.getD 3 0), (ts.getD 4 0), (ts.getD 5 0)]) hH rfl rfl (fun w => by kernel_rfl)) rfl ?_
  clear hH; rintro v_t18 w ⟨N_t18, hO_t18, hH⟩ a hA
  rw [six hts] at hO_t18
  refine sq hA (q_assign rfl) rfl fun a hA => ?_
  refine wpList_nil ?_
  refine hK3 _ _ ?_
  clear hK3
  replace hA := hA.sub (E' := [(4, _), (3, _), (2, _)]) ⟨rfl, rfl, rfl, trivial⟩
  refine wp_seq_k fun K4 hK4 => ?_
  refine wp_seq_k fun K5 hK5 => ?_
  refine wp_region_lit ?_
  refine sq hA (q_assign rfl) rfl fun a hA => ?_
  refine wpList_nil ?_
  refine hK5 _ _ ?_
  clear hK5
  refine wp_block ?_
  replace hH := hH.nilFront
  replace hH := HS.fold [_, _] [_] hH
  obtain ⟨NR6, hNR6, hH⟩ := hH
  refine wp_loop_ghost (fun gm a w => ∃ i : Nat, ∃ v_o : Value, ∃ N_o : Hl, At 34 [(5, I i), (4, v_t18), (3, v_o), (2, (.slice none 0 0))] a ∧ HS [] w0 w ([N_o, N_t18, NR6]) ∧ (i ≤ ts.length) ∧ (Ow B8 5 v_o (bodyT (ts.take i)) N_o) ∧ gm = ts.length - i) (ts.length - (0)) ⟨0, (.slice none 0 0), [], hA.sub ⟨rfl, rfl, rfl, rfl, trivial⟩, hH, by omega, by exact Ow.nil B8 _, rfl⟩ ?_
  clear hA hH
  rintro gm a w ⟨i, v_o, N_o, hA, hH, hi, hO_o, rfl⟩
  have hbl := bodyT_len (ts := ts.take i) (fun n hn => hrt n (List.mem_of_mem_take hn))
  rw [List.length_take] at hbl
  refine wp_seq_k fun K7 hK7 => ?_
  refine wp_seq_k fun K8 hK8 => ?_
  refine wp_region_lit ?_
  refine sq hA (q_move rfl) rfl fun a hA => ?_
  refine sq hA (q_move rfl) rfl fun a hA => ?_
  refine sq hA (q_len Tryd.underlying102 rfl (Own.shp hO_t18)) rfl fun a hA => ?_
  refine sq hA (q_lssI rfl rfl) rfl fun a hA => ?_
  refine wpList_nil ?_
  refine hK8 _ _ ?_
  clear hK8
  refine cond_d hA rfl (fun hc22 => ?_) (fun hc22 => ?_)
  · skip
    refine wp_skip ?_
    refine hK7 _ _ ?_
    clear hK7
    refine wp_seq_k fun K9 hK9 => ?_
    refine wp_block ?_
    refine wp_region_lit ?_
    refine sq hA (q_move rfl) rfl fun a hA => ?_
    refine sq hA (q_move rfl) rfl fun a hA => ?_
    refine sq hA (q_move rfl) rfl fun a hA => ?_
    refine sq hA (q_idx1 (i) Tryd.underlying102 ti3 rfl rfl (by first | omega | rfl) (Own.shp hO_t18) (by first | omega | (simp; done) | (simp; omega) | (rw [List.length_map]; assumption) | assumption | rfl | (simp [*]; done) | (simp [*]; omega))) rfl fun a hA => ?_
    refine sq hA (q_loadRm ((0 : Int)) Tryd.underlying3 rfl rfl (Own.rd0 hO_t18 hH 1 rfl) (by first | omega | (simp; done) | (simp; omega) | (rw [List.length_map]; assumption) | assumption | rfl | (simp [*]; done) | (simp [*]; omega))) rfl fun a hA => ?_
    have hin : inT (ts.getD i 0) := hrt _ (by simp [List.getD, show i < ts.length by omega])
    obtain ⟨hin1, hin2⟩ := hin
    have hwn := wd_le (n := (ts.getD i 0).toNat) (by omega)
    refine sq hA (q_cvI64 Tryd.underlying3 Tryd.underlying61 rfl) rfl fun a hA => ?_
    refine sl hA (lo_call fn55 rfl (refwnum_any _)) rfl ?_
    rintro _ w ⟨v_t31, N_t31, rfl, hO_t31, hC⟩ a hA
    replace hH := HS.call0 hH hC
    clear hC
    rw [toNat_ofIntN (by omega)] at hO_t31
    replace hH := hH.pick [1, 0, 2, 3] (Hs' := [_, _, _, _]) rfl
    refine sl hA (lo_appm hH Tryd.underlying22 Tryd.underlying22 (.inl rfl) ti5 rfl rfl rfl hO_o (Rd.src (Own.rd0 hO_t31 hH 1 rfl)) (one_B8 _) (by first | omega | (simp only [wnum_length]; omega)) (by first | omega | (simp only [wnum_length]; omega))) rfl ?_
    clear hH; rintro v_t32 w ⟨N_t32, hO_t32, hH⟩ a hA
    refine sq hA (q_assign rfl) rfl fun a hA => ?_
    refine wpList_nil ?_
    refine block_normal ?_
    refine hK9 _ _ ?_
    clear hK9
    refine wp_region_lit ?_
    refine sq hA (q_move rfl) rfl fun a hA => ?_
    refine sq hA (q_addI (n := 1) rfl rfl (by omega)) rfl fun a hA => ?_
    refine sq hA (q_assign rfl) rfl fun a hA => ?_
    refine wpList_nil ?_
    replace hH := hH.pick [0, 2, 3, 1] (Hs' := [_, _, _, _]) rfl
    replace hH := hH.pick [0, 1, 2] (Hs' := [_, _, _]) rfl
    exact ⟨_, by omega, i + 1, v_t32, N_t32, hA.sub ⟨rfl, rfl, rfl, rfl, trivial⟩, hH, by omega, by (rw [bodyT_snoc ts (by omega)]; exact hO_t32), rfl⟩
  · skip
    obtain rfl : i = ts.length := by omega
    rw [List.take_length] at hO_o
    refine wp_exit ?_
    refine then_exit ?_
    replace hH := HS.unfold [_, _] hNR6 hH
    refine then_exit ?_
    refine exit_here ?_
    refine hK4 _ _ ?_
    clear hK4
    replace hA := hA.sub (E' := [(3, _), (2, _)]) ⟨rfl, rfl, trivial⟩
    refine wp_seq_k fun K10 hK10 => ?_
    refine wp_region_lit ?_
    refine sq hA (q_move rfl) rfl fun a hA => ?_
    refine sq hA (q_assign rfl) rfl fun a hA => ?_
    refine wpList_nil ?_
    refine hK10 _ _ ?_
    clear hK10
    replace hA := hA.sub (E' := [(2, _)]) ⟨rfl, trivial⟩
    refine wp_ret ?_
    refine post_ret hA (res_1 rfl hA rfl) ?_
    replace hH := hH.pick [0] (Hs' := [_]) rfl
    exact ⟨_, rfl, v_o, N_o, rfl, hO_o, hH⟩

theorem live_any {w0 : World} (ts : List Int) (hts : ts.length = 6) (n : Int) :
    Calls Tryd.prog 29 #[(.agg ((ts).map I).toArray), I n] w0 (Ret fun r w' => r = .bool (decide (n < ts.getD 5 0)) ∧ HS [] w0 w' []) := by
  have hH := HS.start w0
  refine start (n := 9) (E := [(0, _), (1, _)]) Tryd.func29 rfl rfl rfl (args_look rfl) ?_
  intro a hA
  refine wp_seq_k fun K1 hK1 => ?_
  refine wp_region_lit ?_
  refine sl hA (lo_boxA hH rfl) rfl ?_
  clear hH; rintro _ w ⟨b_t2, rfl, hH⟩ a hA
  refine sq hA (q_assign rfl) rfl fun a hA => ?_
  refine wpList_nil ?_
  refine hK1 _ _ ?_
  clear hK1
  replace hA := hA.sub (E' := [(4, _), (2, _), (1, _)]) ⟨rfl, rfl, rfl, trivial⟩
  refine wp_seq_k fun K2 hK2 => ?_
  refine wp_region_lit ?_
  refine sq hA (q_move rfl) rfl fun a hA => ?_
  refine sq hA (q_fld 5 Tryd.underlying44 rfl rfl ti3 rfl) rfl fun a hA => ?_
  refine sq hA (q_loadBm ((0 : Int)) hH 0 rfl Tryd.underlying3 rfl rfl (by first | omega | (simp; done) | (simp; omega) | (rw [List.length_map]; assumption) | assumption | rfl | (simp [*]; done) | (simp [*]; omega))) rfl fun a hA => ?_
  refine sq hA (q_lssI rfl rfl) rfl fun a hA => ?_
  refine sq hA (q_assign rfl) rfl fun a hA => ?_
  refine wpList_nil ?_
  refine hK2 _ _ ?_
  clear hK2
  replace hA := hA.sub (E' := [(4, _)]) ⟨rfl, trivial⟩
  refine wp_ret ?_
  refine post_ret hA (res_1 rfl hA rfl) ?_
  replace hH := hH.pick [] (Hs' := []) rfl
  exact ⟨_, rfl, rfl, hH⟩

theorem maket_any {w0 : World} {lv : Nat} (hg : Gl lv w0) (s : Bs) (hs : s.length = 32) (ts : List Int) (hts : ts.length = 6) :
    Calls Tryd.prog 26 #[(.agg ((s).map B8).toArray), (.agg ((ts).map I).toArray)] w0 (Ret fun r w' => ∃ v' N, r = .tuple #[v', I (mkT s ts).2] ∧ Ow B8 5 v' (mkT s ts).1 N ∧ HS [] w0 w' [N]) := by
  have hH := HS.start w0
  refine start (n := 38) (E := [(0, _), (1, _)]) Tryd.func26 rfl rfl rfl (args_look rfl) ?_
  intro a hA
  refine wp_seq_k fun K1 hK1 => ?_
  refine wp_region_lit ?_
  refine sl hA (lo_boxA hH rfl) rfl ?_
  clear hH; rintro _ w ⟨b_t2, rfl, hH⟩ a hA
  refine sl hA (lo_boxA hH rfl) rfl ?_
  clear hH; rintro _ w ⟨b_t3, rfl, hH⟩ a hA
  refine sq hA (q_assign rfl) rfl fun a hA => ?_
  refine sq hA (q_assign rfl) rfl fun a hA => ?_
  refine wpList_nil ?_
  refine hK1 _ _ ?_
  clear hK1
  replace hA := hA.sub (E' := [(5, _), (4, _), (3, _), (2, _)]) ⟨rfl, rfl, rfl, rfl, trivial⟩
  refine wp_seq_k fun K2 hK2 => ?_
  refine wp_region_lit ?_
  refine sq hA (q_assign rfl) rfl fun a hA => ?_
  refine wpList_nil ?_
  refine hK2 _ _ ?_
  clear hK2
  refine wp_seq_k fun K3 hK3 => ?_
  refine wp_seq_k fun K4 hK4 => ?_
  refine wp_region_lit ?_
  refine sl hA (lo_call fn41 rfl (fields_any b_t3)) rfl ?_
  rintro _ w ⟨rfl, hC⟩ a hA
  replace hH := HS.call0 hH hC
  clear hC
  refine sq hA (q_move rfl) rfl fun a hA => ?_
  refine wpList_nil ?_
  refine hK4 _ _ ?_
  clear hK4
  replace hA := hA.sub (E' := [(11, _), (10, _), (6, _), (5, _), (4, _), (2, _)]) ⟨rfl, rfl, rfl, rfl, rfl, rfl, trivial⟩
  refine wp_block ?_
  replace hH := hH.nilFront
  replace hH := HS.fold [_, _] [_] hH
  obtain ⟨NR5, hNR5, hH⟩ := hH
  refine wp_loop_ghost (fun gm a w => ∃ i : Nat, ∃ v_o : Value, ∃ N_o : Hl, At 38 [(11, I i), (10, (.agg ((List.range 6).map (pb b_t3)).toArray)), (6, v_o), (5, (I 0)), (4, (.slice none 0 0)), (2, (.pointer (some ⟨b_t2, 0, none⟩)))] a ∧ HS [] w0 w ([N_o, [(b_t3, Obj.cells ((ts).map I).toArray 44 (0, 0))], NR5]) ∧ (i ≤ 6) ∧ (RtT (ts.take i)) ∧ (Ow B8 5 v_o (bodyT (ts.take i)) N_o) ∧ gm = 6 - i) (6 - (0)) ⟨0, (.slice none 0 0), [], hA.sub ⟨rfl, rfl, rfl, rfl, rfl, rfl, trivial⟩, hH, by omega, by exact fun n hn => by simp at hn, by exact Ow.nil B8 _, rfl⟩ ?_
  clear hA hH
  rintro gm a w ⟨i, v_o, N_o, hA, hH, hi, hrt, hO_o, rfl⟩
  have hbl := bodyT_len hrt
  rw [List.length_take] at hbl
  refine wp_seq_k fun K6 hK6 => ?_
  refine wp_region_lit ?_
  refine sq hA (q_lssI (n := 6) rfl rfl) rfl fun a hA => ?_
  refine wpList_nil ?_
  refine hK6 _ _ ?_
  clear hK6
  refine wp_seq_k fun K7 hK7 => ?_
  refine cond_d hA rfl (fun hc12 => ?_) (fun hc12 => ?_)
  · skip
    refine wp_skip ?_
    refine hK7 _ _ ?_
    clear hK7
    refine wp_seq_k fun K8 hK8 => ?_
    refine wp_block ?_
    refine wp_seq_k fun K9 hK9 => ?_
    refine wp_region_lit ?_
    refine sq hA (q_indexm (f := pb b_t3) (0 : Nat) i Tryd.underlying70 ti69 Tryd.underlying69 rfl rfl rfl rfl (by omega) (by simp; omega)) rfl fun a hA => ?_
    rw [range_at (by omega)] at hA
    rw [show pb b_t3 i = (.pointer (some ⟨b_t3, i, none⟩)) from rfl] at hA
    refine sq hA (q_assign rfl) rfl fun a hA => ?_
    refine wpList_nil ?_
    refine hK9 _ _ ?_
    clear hK9
    refine wp_seq_k fun K10 hK10 => ?_
    refine wp_seq_k fun K11 hK11 => ?_
    refine wp_region_lit ?_
    refine sq hA (q_move rfl) rfl fun a hA => ?_
    refine sq hA (q_nilCheck rfl) rfl fun a hA => ?_
    refine sq hA (q_loadBm ((0 : Int)) hH 1 rfl Tryd.underlying3 rfl rfl (by first | omega | (simp; done) | (simp; omega) | (rw [List.length_map]; assumption) | assumption | rfl | (simp [*]; done) | (simp [*]; omega))) rfl fun a hA => ?_
    refine sq hA (q_lssI (n := 0) rfl rfl) rfl fun a hA => ?_
    refine hA.spl (fun hs17 hA => ?_) (fun hs17 hA => ?_)
    · skip
      have hbad : ¬ RtT ts := fun h => by have := (h (ts.getD i 0) (by simp [List.getD, show i < ts.length by omega])).1; omega
      refine sq hA (q_move rfl) rfl fun a hA => ?_
      refine gs hA rfl rfl rfl rfl fun a hA => ?_
      refine gs hA rfl rfl rfl rfl fun a hA => ?_
      refine gs hA rfl rfl rfl rfl fun a hA => ?_
      refine gs hA rfl rfl rfl rfl fun a hA => ?_
      refine sq hA (q_pick_t rfl rfl) rfl fun a hA => ?_
      refine wpList_nil ?_
      refine hK11 _ _ ?_
      clear hK11
      refine cond_t hA rfl ?_
      refine wp_seq_k fun K12 hK12 => ?_
      refine wp_region_lit ?_
      refine sq hA (q_assign rfl) rfl fun a hA => ?_
      refine sq hA (q_assign rfl) rfl fun a hA => ?_
      refine wpList_nil ?_
      refine hK12 _ _ ?_
      clear hK12
      refine wp_ret ?_
      refine then_ret ?_
      refine block_ret ?_
      refine then_ret ?_
      refine then_ret ?_
      refine block_ret ?_
      refine then_ret ?_
      replace hH := HS.unfold [_, _] hNR5 hH
      refine post_ret hA (res_2 rfl hA rfl rfl) ?_
      replace hH := hH.pick [] (Hs' := []) rfl
      exact ⟨_, rfl, _, [], by rw [mkT_bad hbad] <;> rfl, by rw [mkT_bad hbad]; exact Ow.nil B8 _, hH.nilFront⟩
    · skip
      refine sq hA (q_move rfl) rfl fun a hA => ?_
      refine gq hA rfl rfl (q_move rfl) rfl fun a hA => ?_
      refine gq hA rfl rfl (q_nilCheck rfl) rfl fun a hA => ?_
      refine gq hA rfl rfl (q_loadBm ((0 : Int)) hH 1 rfl Tryd.underlying3 rfl rfl (by first | omega | (simp; done) | (simp; omega) | (rw [List.length_map]; assumption) | assumption | rfl | (simp [*]; done) | (simp [*]; omega))) rfl fun a hA => ?_
      refine gq hA rfl rfl (q_gtrI (n := 1099511627776) rfl rfl) rfl fun a hA => ?_
      refine sq hA (q_pick_f rfl rfl) rfl fun a hA => ?_
      refine wpList_nil ?_
      refine hK11 _ _ ?_
      clear hK11
      refine cond_d hA rfl (fun hc23 => ?_) (fun hc23 => ?_)
      · skip
        have hbad : ¬ RtT ts := fun h => by have := h (ts.getD i 0) (by simp [List.getD, show i < ts.length by omega]); obtain ⟨g1, g2⟩ := this; omega
        refine wp_seq_k fun K13 hK13 => ?_
        refine wp_region_lit ?_
        refine sq hA (q_assign rfl) rfl fun a hA => ?_
        refine sq hA (q_assign rfl) rfl fun a hA => ?_
        refine wpList_nil ?_
        refine hK13 _ _ ?_
        clear hK13
        refine wp_ret ?_
        refine then_ret ?_
        refine block_ret ?_
        refine then_ret ?_
        refine then_ret ?_
        refine block_ret ?_
        refine then_ret ?_
        replace hH := HS.unfold [_, _] hNR5 hH
        refine post_ret hA (res_2 rfl hA rfl rfl) ?_
        replace hH := hH.pick [] (Hs' := []) rfl
        exact ⟨_, rfl, _, [], by rw [mkT_bad hbad] <;> rfl, by rw [mkT_bad hbad]; exact Ow.nil B8 _, hH.nilFront⟩
      · skip
        have hin : inT (ts.getD i 0) := ⟨by omega, by omega⟩
        refine wp_skip ?_
        refine hK10 _ _ ?_
        clear hK10
        refine wp_region_lit ?_
        refine sq hA (q_move rfl) rfl fun a hA => ?_
        refine sq hA (q_move rfl) rfl fun a hA => ?_
        refine sq hA (q_nilCheck rfl) rfl fun a hA => ?_
        refine sq hA (q_loadBm ((0 : Int)) hH 1 rfl Tryd.underlying3 rfl rfl (by first | omega | (simp; done) | (simp; omega) | (rw [List.length_map]; assumption) | assumption | rfl | (simp [*]; done) | (simp [*]; omega))) rfl fun a hA => ?_
        refine sq hA (q_cvI64 Tryd.underlying3 Tryd.underlying61 rfl) rfl fun a hA => ?_
        refine sl hA (lo_call fn49 rfl (wnum_any _)) rfl ?_
        rintro _ w ⟨v_t29, N_t29, rfl, hO_t29, hC⟩ a hA
        replace hH := HS.call0 hH hC
        clear hC
        rw [toNat_ofIntN (by omega)] at hO_t29
        have hwn := wd_le (n := (ts.getD i 0).toNat) (by omega)
        replace hH := hH.pick [1, 0, 2, 3] (Hs' := [_, _, _, _]) rfl
        refine sl hA (lo_appm hH Tryd.underlying22 Tryd.underlying22 (.inl rfl) ti5 rfl rfl rfl hO_o (Rd.src (Own.rd0 hO_t29 hH 1 rfl)) (one_B8 _) (by first | omega | (simp only [wnum_length]; omega)) (by first | omega | (simp only [wnum_length]; omega))) rfl ?_
        clear hH; rintro v_t30 w ⟨N_t30, hO_t30, hH⟩ a hA
        refine sq hA (q_assign rfl) rfl fun a hA => ?_
        refine wpList_nil ?_
        refine block_normal ?_
        refine hK8 _ _ ?_
        clear hK8
        refine wp_region_lit ?_
        refine sq hA (q_addI (n := 1) rfl rfl (by omega)) rfl fun a hA => ?_
        refine sq hA (q_move rfl) rfl fun a hA => ?_
        refine wpList_nil ?_
        replace hH := hH.pick [0, 2, 3, 1] (Hs' := [_, _, _, _]) rfl
        replace hH := hH.pick [0, 1, 2] (Hs' := [_, _, _]) rfl
        exact ⟨_, by omega, i + 1, v_t30, N_t30, hA.sub ⟨rfl, rfl, rfl, rfl, rfl, rfl, trivial⟩, hH, by omega, by (rw [take_snoc (d := 0) ts (by omega)]; intro n hn; rcases List.mem_append.1 hn with h | h; exact hrt n h; rw [List.mem_singleton.1 h]; exact hin), by (rw [bodyT_snoc ts (by omega)]; exact hO_t30), rfl⟩
  · skip
    obtain rfl : i = 6 := by omega
    rw [show ts.take 6 = ts from List.take_of_length_le (by omega)] at hO_o hrt
    have hbl := bodyT_len hrt
    have hmk := mkT_ok (key := s) hrt
    refine wp_exit ?_
    refine then_exit ?_
    replace hH := HS.unfold [_, _] hNR5 hH
    refine then_exit ?_
    refine exit_here ?_
    refine hK3 _ _ ?_
    clear hK3
    replace hA := hA.sub (E' := [(6, _), (5, _), (4, _), (2, _)]) ⟨rfl, rfl, rfl, rfl, trivial⟩
    refine wp_seq_k fun K14 hK14 => ?_
    refine wp_region_lit ?_
    refine sq hA (q_sliceAll Tryd.underlying42 ti5 rfl) rfl fun a hA => ?_
    refine sq hA (q_move rfl) rfl fun a hA => ?_
    refine sl hA (lo_call fn44 rfl (mac_any (hg.mono0 hH) _ _ _ _ (HS.byB hH 2 rfl (by first | assumption | (rw [List.length_map]; assumption) | rfl | exact sha_length _ | (simp; done) | (simp [*]; done) | omega)) (Own.rd0 hO_o hH 0 rfl) (by first | omega | (simp; done) | (simp; omega)) (by first | omega | (simp; done) | (simp; omega)))) rfl ?_
    rintro _ w ⟨rfl, hC⟩ a hA
    replace hH := HS.call0 hH hC
    clear hC
    refine sl hA (lo_allocA hH ti42) rfl ?_
    clear hH; rintro _ w ⟨b_t9, rfl, hH⟩ a hA
    refine s0 hA (lo_storeAm hH ti42 rfl rfl (by first | omega | (simp; done) | (simp; omega) | (rw [List.length_map]; assumption) | assumption | rfl | (simp [*]; done) | (simp [*]; omega)) (by first | omega | (simp; done) | (simp; omega) | (rw [List.length_map]; assumption) | assumption | rfl | (simp [*]; done) | (simp [*]; omega)) (one_B8 _)) ?_
    clear hH; rintro _ w hH
    refine wpList_nil ?_
    refine hK14 _ _ ?_
    clear hK14
    replace hA := hA.sub (E' := [(9, _), (6, _), (5, _), (4, _)]) ⟨rfl, rfl, rfl, rfl, trivial⟩
    refine wp_seq_k fun K15 hK15 => ?_
    refine wp_region_lit ?_
    refine sq hA (q_move rfl) rfl fun a hA => ?_
    refine sq hA (q_sliceAll Tryd.underlying42 ti5 rfl) rfl fun a hA => ?_
    replace hH := hH.pick [1, 0, 2, 3] (Hs' := [_, _, _, _]) rfl
    refine sl hA (lo_appm hH Tryd.underlying22 Tryd.underlying22 (.inl rfl) ti5 rfl rfl rfl hO_o (Rd.src (hH.rdB (T := _) 1 rfl (by first | (simp; done) | simp [*] | omega))) (one_B8 _) (by first | omega | (simp [mac_length]; omega)) (by first | omega | (simp [mac_length]; omega))) rfl ?_
    clear hH; rintro v_t37 w ⟨N_t37, hO_t37, hH⟩ a hA
    refine sq hA (q_assign rfl) rfl fun a hA => ?_
    refine sq hA (q_assign rfl) rfl fun a hA => ?_
    refine wpList_nil ?_
    refine hK15 _ _ ?_
    clear hK15
    replace hA := hA.sub (E' := [(5, _), (4, _)]) ⟨rfl, rfl, trivial⟩
    refine wp_ret ?_
    refine post_ret hA (res_2 rfl hA rfl rfl) ?_
    replace hH := hH.pick [0] (Hs' := [_]) rfl
    exact ⟨_, rfl, v_t37, N_t37, by rw [hmk] <;> rfl, by rw [hmk]; exact hO_t37, hH⟩

theorem refmaket_any {w0 : World} {lv : Nat} (hg : Gl (lv + 2) w0) (s : Bs) (hs : s.length = 32) (ts : List Int) (hts : ts.length = 6) :
    Calls Tryd.prog 28 #[(.agg ((s).map B8).toArray), (.agg ((ts).map I).toArray)] w0 (Ret fun r w' => ∃ v' N, r = .tuple #[v', I (mkT s ts).2] ∧ Ow B8 5 v' (mkT s ts).1 N ∧ HS [] w0 w' [N]) := by
  have hH := HS.start w0
  refine start (n := 21) (E := [(0, _), (1, _)]) Tryd.func28 rfl rfl rfl (args_look rfl) ?_
  intro a hA
  refine wp_seq_k fun K1 hK1 => ?_
  refine wp_region_lit ?_
  refine sl hA (lo_boxA hH rfl) rfl ?_
  clear hH; rintro _ w ⟨b_t2, rfl, hH⟩ a hA
  refine sl hA (lo_boxA hH rfl) rfl ?_
  clear hH; rintro _ w ⟨b_t3, rfl, hH⟩ a hA
  refine sq hA (q_assign rfl) rfl fun a hA => ?_
  refine sq hA (q_assign rfl) rfl fun a hA => ?_
  refine wpList_nil ?_
  refine hK1 _ _ ?_
  clear hK1
  replace hA := hA.sub (E' := [(5, _), (4, _), (3, _), (2, _)]) ⟨rfl, rfl, rfl, rfl, trivial⟩
  refine wp_seq_k fun K2 hK2 => ?_
  refine wp_seq_k fun K3 hK3 => ?_
  refine wp_region_lit ?_
  refine sq hA (q_loadW hH 0 rfl Tryd.underlying44 rfl ti44 rfl (by first | omega | (simp; done) | (simp; omega) | (rw [List.length_map]; assumption) | assumption | rfl | (simp [*]; done) | (simp [*]; omega))) rfl fun a hA => ?_
  refine sl hA (lo_call fn27 rfl (rightT_any _ (by first | assumption | (rw [List.length_map]; assumption) | rfl | exact sha_length _ | (simp; done) | (simp [*]; done) | omega))) rfl ?_
  rintro _ w ⟨rfl, hC⟩ a hA
  replace hH := HS.call0 hH hC
  clear hC
  refine hA.spl (fun hs9 hA => ?_) (fun hs9 hA => ?_)
  · skip
    have hmk := mkT_ok (key := s) hs9
    have hbl := bodyT_len hs9
    refine sq hA (q_not rfl) rfl fun a hA => ?_
    refine wpList_nil ?_
    refine hK3 _ _ ?_
    clear hK3
    replace hA := hA.sub (E' := [(10, _), (5, _), (4, _), (3, _), (2, _)]) ⟨rfl, rfl, rfl, rfl, rfl, trivial⟩
    refine cond_f hA rfl ?_
    refine wp_skip ?_
    refine hK2 _ _ ?_
    clear hK2
    replace hA := hA.sub (E' := [(5, _), (4, _), (3, _), (2, _)]) ⟨rfl, rfl, rfl, rfl, trivial⟩
    refine wp_seq_k fun K4 hK4 => ?_
    refine wp_region_lit ?_
    refine sq hA (q_loadW hH 0 rfl Tryd.underlying44 rfl ti44 rfl (by first | omega | (simp; done) | (simp; omega) | (rw [List.length_map]; assumption) | assumption | rfl | (simp [*]; done) | (simp [*]; omega))) rfl fun a hA => ?_
    refine sl hA (lo_call fn51 rfl (bodyT_any _ (by first | assumption | (rw [List.length_map]; assumption) | rfl | exact sha_length _ | (simp; done) | (simp [*]; done) | omega) (by assumption))) rfl ?_
    rintro _ w ⟨v_t12, N_t12, rfl, hO_t12, hC⟩ a hA
    replace hH := HS.call0 hH hC
    clear hC
    refine sq hA (q_assign rfl) rfl fun a hA => ?_
    refine wpList_nil ?_
    refine hK4 _ _ ?_
    clear hK4
    replace hA := hA.sub (E' := [(6, _), (5, _), (4, _), (2, _)]) ⟨rfl, rfl, rfl, rfl, trivial⟩
    refine wp_seq_k fun K5 hK5 => ?_
    refine wp_region_lit ?_
    refine sq hA (q_loadW hH 2 rfl Tryd.underlying42 rfl ti42 rfl (by first | omega | (simp; done) | (simp; omega) | (rw [List.length_map]; assumption) | assumption | rfl | (simp [*]; done) | (simp [*]; omega))) rfl fun a hA => ?_
    refine sl hA (lo_call fn33 rfl (refdigest_any _ (by first | assumption | (rw [List.length_map]; assumption) | rfl | exact sha_length _ | (simp; done) | (simp [*]; done) | omega))) rfl ?_
    rintro _ w ⟨v_t14, N_t14, rfl, hO_t14, hC⟩ a hA
    replace hH := HS.call0 hH hC
    clear hC
    refine sq hA (q_move rfl) rfl fun a hA => ?_
    refine sl hA (lo_call fn48 rfl (refmac_any (hg.mono0 hH) _ _ _ _ (Own.rd0 hO_t14 hH 0 rfl) (Own.rd0 hO_t12 hH 1 rfl) (by first | omega | (simp; done) | (simp; omega)) (by first | omega | (simp; done) | (simp; omega)))) rfl ?_
    rintro _ w ⟨rfl, hC⟩ a hA
    replace hH := HS.call0 hH hC
    clear hC
    refine sl hA (lo_call fn33 rfl (refdigest_any _ (by first | assumption | (rw [List.length_map]; assumption) | rfl | exact sha_length _ | (simp; done) | (simp [*]; done) | omega))) rfl ?_
    rintro _ w ⟨v_t17, N_t17, rfl, hO_t17, hC⟩ a hA
    replace hH := HS.call0 hH hC
    clear hC
    refine sq hA (q_assign rfl) rfl fun a hA => ?_
    refine wpList_nil ?_
    refine hK5 _ _ ?_
    clear hK5
    replace hA := hA.sub (E' := [(7, _), (6, _), (5, _), (4, _)]) ⟨rfl, rfl, rfl, rfl, trivial⟩
    refine wp_seq_k fun K6 hK6 => ?_
    refine wp_region_lit ?_
    refine sq hA (q_move rfl) rfl fun a hA => ?_
    refine sq hA (q_move rfl) rfl fun a hA => ?_
    replace hH := hH.pick [2, 0, 1, 3, 4] (Hs' := [_, _, _, _, _]) rfl
    refine sl hA (lo_appm hH Tryd.underlying22 Tryd.underlying22 (.inl rfl) ti5 rfl rfl rfl hO_t12 (Rd.src (Own.rd0 hO_t17 hH 1 rfl)) (one_B8 _) (by first | omega | (simp [mac_length]; omega)) (by first | omega | (simp [mac_length]; omega))) rfl ?_
    clear hH; rintro v_t20 w ⟨N_t20, hO_t20, hH⟩ a hA
    refine sq hA (q_assign rfl) rfl fun a hA => ?_
    refine sq hA (q_assign rfl) rfl fun a hA => ?_
    refine wpList_nil ?_
    refine hK6 _ _ ?_
    clear hK6
    replace hA := hA.sub (E' := [(5, _), (4, _)]) ⟨rfl, rfl, trivial⟩
    refine wp_ret ?_
    refine post_ret hA (res_2 rfl hA rfl rfl) ?_
    replace hH := hH.pick [0] (Hs' := [_]) rfl
    exact ⟨_, rfl, v_t20, N_t20, by rw [hmk] <;> rfl, by rw [hmk]; exact hO_t20, hH⟩
  · skip
    have hmk := mkT_bad (key := s) hs9
    refine sq hA (q_not rfl) rfl fun a hA => ?_
    refine wpList_nil ?_
    refine hK3 _ _ ?_
    clear hK3
    replace hA := hA.sub (E' := [(10, _), (5, _), (4, _), (3, _), (2, _)]) ⟨rfl, rfl, rfl, rfl, rfl, trivial⟩
    refine cond_t hA rfl ?_
    refine wp_seq_k fun K7 hK7 => ?_
    refine wp_region_lit ?_
    refine sq hA (q_assign rfl) rfl fun a hA => ?_
    refine sq hA (q_assign rfl) rfl fun a hA => ?_
    refine wpList_nil ?_
    refine hK7 _ _ ?_
    clear hK7
    replace hA := hA.sub (E' := [(5, _), (4, _), (3, _), (2, _)]) ⟨rfl, rfl, rfl, rfl, trivial⟩
    refine wp_ret ?_
    refine then_ret ?_
    refine post_ret hA (res_2 rfl hA rfl rfl) ?_
    replace hH := hH.pick [] (Hs' := []) rfl
    exact ⟨_, rfl, _, [], by rw [hmk] <;> rfl, by rw [hmk]; exact Ow.nil B8 _, hH.nilFront⟩

end Go.Proofs.YtokcbfklogjnfaaDoor
