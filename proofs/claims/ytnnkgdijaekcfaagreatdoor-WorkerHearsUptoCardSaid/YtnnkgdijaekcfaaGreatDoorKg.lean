/- Layer 22 (worker): awake; the law WorkerNil. -/
import Derived.Test.YtnnkgdijaekcfaaGreatDoorKf
namespace Go.Proofs.YtnnkgdijaekcfaaGreatDoor
open Go
set_option linter.unusedVariables false
set_option linter.unusedSimpArgs false
set_option maxRecDepth 100000

theorem Gl.ngs {lv : Nat} {M : List Nat} {w0 w : World} {Ns1 rest : List Hl} (h : Gl lv w0) (hM : NG lv M) (hH : HS M w0 w (Ns1 ++ rest)) : NG lv (doms Ns1) := by
  intro m hm
  obtain ⟨N', hN', p, hp, rfl⟩ := mem_doms.1 hm
  obtain ⟨i, hi⟩ := List.mem_iff_getElem?.1 hN'
  have hl := (List.getElem?_eq_some_iff.1 hi).1
  have h2 : HS M w0 w [N'] := hH.pick [i] (by simp only [pick, nth?_eq]; rw [List.getElem?_append_left hl, hi]) (by simp)
  exact h.ng hM (rest := []) h2 p.1 (mem_doms.2 ⟨N', by simp, p, hp, rfl⟩)
instance (cs : List Int) : Decidable (RightC cs) := by unfold RightC; infer_instance
theorem refbetween_any {w0 : World} (n lo hi : Int) :
    Calls Tryz.prog 21 #[I n, I lo, I hi] w0 (Ret fun r w' => r = .bool (decide (lo ≤ n ∧ n ≤ hi)) ∧ HS [] w0 w' []) := by
 have hH := HS.start w0
 refine start (n := 15) (E := [(0, _), (1, _), (2, _)]) Tryz.func21 rfl rfl rfl (args_look rfl) ?_
 intro a hA
 refine wp_seq_k fun K1 hK1 => ?_
 refine wp_region_lit ?_
 refine asg hA fun a hA => ?_
 refine wpList_nil ?_
 refine hK1 _ _ ?_
 clear hK1
 refine wp_seq_k fun K2 hK2 => ?_
 refine wp_region_lit ?_
 refine mv hA fun a hA => ?_
 refine mv hA fun a hA => ?_
 refine sq hA (q_geqI rfl rfl) rfl fun a hA => ?_
 refine hA.spl (fun hs9 hA => ?_) (fun hs9 hA => ?_)
 ·skip
  refine mv hA fun a hA => ?_
  refine gq hA rfl rfl (q_move rfl) rfl fun a hA => ?_
  refine gq hA rfl rfl (q_move rfl) rfl fun a hA => ?_
  refine gq hA rfl rfl (q_leqI rfl rfl) rfl fun a hA => ?_
  refine sq hA (q_pick_t rfl rfl) rfl fun a hA => ?_
  refine asg hA fun a hA => ?_
  refine wpList_nil ?_
  refine hK2 _ _ ?_
  clear hK2
  replace hA := hA.s1 6
  refine wp_ret ?_
  refine post_ret hA (res_1 rfl hA rfl) ?_
  exact ⟨_, rfl, by congr 1; symm; first | exact decide_eq_false (by omega) | exact decide_eq_true (by omega) | exact decide_eq_decide.2 (by omega), hH⟩
 ·skip
  refine mv hA fun a hA => ?_
  refine gs hA rfl rfl rfl rfl fun a hA => ?_
  refine gs hA rfl rfl rfl rfl fun a hA => ?_
  refine gs hA rfl rfl rfl rfl fun a hA => ?_
  refine sq hA (q_pick_f rfl rfl) rfl fun a hA => ?_
  refine asg hA fun a hA => ?_
  refine wpList_nil ?_
  refine hK2 _ _ ?_
  clear hK2
  replace hA := hA.s1 6
  refine wp_ret ?_
  refine post_ret hA (res_1 rfl hA rfl) ?_
  exact ⟨_, rfl, by congr 1; symm; first | exact decide_eq_false (by omega) | exact decide_eq_true (by omega) | exact decide_eq_decide.2 (by omega), hH⟩

theorem refright21_any {w0 : World} (cs : List Int) (hcs : cs.length = 7) :
    Calls Tryz.prog 8 #[(.agg ((cs).map I).toArray)] w0 (Ret fun r w' => r = .bool (decide (RightC cs)) ∧ HS [] w0 w' []) := by
 have hH := HS.start w0
 refine start (n := 40) (E := [(0, _)]) Tryz.func8 rfl rfl rfl (args_look rfl) ?_
 intro a hA
 refine wp_seq_k fun K1 hK1 => ?_
 refine wp_region_lit ?_
 refine sl hA (lo_boxA hH rfl) rfl ?_
 clear hH; rintro _ w ⟨b_t1, rfl, hH⟩ a hA
 refine asg hA fun a hA => ?_
 refine wpList_nil ?_
 refine hK1 _ _ ?_
 clear hK1
 replace hA := hA.s2 2 1
 refine wp_seq_k fun K2 hK2 => ?_
 refine wp_region_lit ?_
 refine sq hA (q_fld 0 Tryz.underlying23 rfl rfl ti3 rfl) rfl fun a hA => ?_
 refine sq hA (q_loadBm ((0 : Int)) hH 0 rfl Tryz.underlying3 rfl rfl (by first | omega | (simp; done) | (simp; omega) | (rw [List.length_map]; assumption) | assumption | rfl | (simp [*]; done) | (simp [*]; omega))) rfl fun a hA => ?_
 refine sl hA (lo_call fn21 rfl (refbetween_any _ _ _)) rfl ?_
 rintro _ w ⟨rfl, hC⟩ a hA
 replace hH := HS.call0 hH hC
 clear hC
 refine hA.spl (fun hs5 hA => ?_) (fun hs5 hA => ?_)
 ·skip
  refine mv hA fun a hA => ?_
  refine gq hA rfl rfl (q_fld 1 Tryz.underlying23 rfl rfl ti3 rfl) rfl fun a hA => ?_
  refine gq hA rfl rfl (q_loadBm ((0 : Int)) hH 0 rfl Tryz.underlying3 rfl rfl (by first | omega | (simp; done) | (simp; omega) | (rw [List.length_map]; assumption) | assumption | rfl | (simp [*]; done) | (simp [*]; omega))) rfl fun a hA => ?_
  refine gq hA rfl rfl (q_fld 0 Tryz.underlying23 rfl rfl ti3 rfl) rfl fun a hA => ?_
  refine gq hA rfl rfl (q_loadBm ((0 : Int)) hH 0 rfl Tryz.underlying3 rfl rfl (by first | omega | (simp; done) | (simp; omega) | (rw [List.length_map]; assumption) | assumption | rfl | (simp [*]; done) | (simp [*]; omega))) rfl fun a hA => ?_
  refine gq hA rfl rfl (q_mulI (m := 2) rfl rfl (by omega)) rfl fun a hA => ?_
  refine gq hA rfl rfl (q_addI (n := 1) rfl rfl (by omega)) rfl fun a hA => ?_
  refine gl hA rfl rfl (lo_call fn21 rfl (refbetween_any _ _ _)) rfl ?_
  rintro _ w ⟨rfl, hC⟩ a hA
  replace hH := HS.call0 hH hC
  clear hC
  refine sq hA (q_pick_t rfl rfl) rfl fun a hA => ?_
  refine hA.spl (fun hs14 hA => ?_) (fun hs14 hA => ?_)
  ·skip
   refine mv hA fun a hA => ?_
   refine gq hA rfl rfl (q_fld 2 Tryz.underlying23 rfl rfl ti3 rfl) rfl fun a hA => ?_
   refine gq hA rfl rfl (q_loadBm ((0 : Int)) hH 0 rfl Tryz.underlying3 rfl rfl (by first | omega | (simp; done) | (simp; omega) | (rw [List.length_map]; assumption) | assumption | rfl | (simp [*]; done) | (simp [*]; omega))) rfl fun a hA => ?_
   refine gl hA rfl rfl (lo_call fn21 rfl (refbetween_any _ _ _)) rfl ?_
   rintro _ w ⟨rfl, hC⟩ a hA
   replace hH := HS.call0 hH hC
   clear hC
   refine sq hA (q_pick_t rfl rfl) rfl fun a hA => ?_
   refine hA.spl (fun hs19 hA => ?_) (fun hs19 hA => ?_)
   ·skip
    refine mv hA fun a hA => ?_
    refine gq hA rfl rfl (q_fld 6 Tryz.underlying23 rfl rfl ti3 rfl) rfl fun a hA => ?_
    refine gq hA rfl rfl (q_loadBm ((0 : Int)) hH 0 rfl Tryz.underlying3 rfl rfl (by first | omega | (simp; done) | (simp; omega) | (rw [List.length_map]; assumption) | assumption | rfl | (simp [*]; done) | (simp [*]; omega))) rfl fun a hA => ?_
    refine gl hA rfl rfl (lo_call fn21 rfl (refbetween_any _ _ _)) rfl ?_
    rintro _ w ⟨rfl, hC⟩ a hA
    replace hH := HS.call0 hH hC
    clear hC
    refine sq hA (q_pick_t rfl rfl) rfl fun a hA => ?_
    refine hA.spl (fun hs24 hA => ?_) (fun hs24 hA => ?_)
    ·skip
     refine mv hA fun a hA => ?_
     refine gq hA rfl rfl (q_fld 3 Tryz.underlying23 rfl rfl ti3 rfl) rfl fun a hA => ?_
     refine gq hA rfl rfl (q_loadBm ((0 : Int)) hH 0 rfl Tryz.underlying3 rfl rfl (by first | omega | (simp; done) | (simp; omega) | (rw [List.length_map]; assumption) | assumption | rfl | (simp [*]; done) | (simp [*]; omega))) rfl fun a hA => ?_
     refine gl hA rfl rfl (lo_call fn21 rfl (refbetween_any _ _ _)) rfl ?_
     rintro _ w ⟨rfl, hC⟩ a hA
     replace hH := HS.call0 hH hC
     clear hC
     refine sq hA (q_pick_t rfl rfl) rfl fun a hA => ?_
     refine hA.spl (fun hs29 hA => ?_) (fun hs29 hA => ?_)
     ·skip
      refine mv hA fun a hA => ?_
      refine gq hA rfl rfl (q_fld 4 Tryz.underlying23 rfl rfl ti3 rfl) rfl fun a hA => ?_
      refine gq hA rfl rfl (q_loadBm ((0 : Int)) hH 0 rfl Tryz.underlying3 rfl rfl (by first | omega | (simp; done) | (simp; omega) | (rw [List.length_map]; assumption) | assumption | rfl | (simp [*]; done) | (simp [*]; omega))) rfl fun a hA => ?_
      refine gl hA rfl rfl (lo_call fn21 rfl (refbetween_any _ _ _)) rfl ?_
      rintro _ w ⟨rfl, hC⟩ a hA
      replace hH := HS.call0 hH hC
      clear hC
      refine sq hA (q_pick_t rfl rfl) rfl fun a hA => ?_
      refine hA.spl (fun hs34 hA => ?_) (fun hs34 hA => ?_)
      ·skip
       refine mv hA fun a hA => ?_
       refine gq hA rfl rfl (q_fld 5 Tryz.underlying23 rfl rfl ti3 rfl) rfl fun a hA => ?_
       refine gq hA rfl rfl (q_loadBm ((0 : Int)) hH 0 rfl Tryz.underlying3 rfl rfl (by first | omega | (simp; done) | (simp; omega) | (rw [List.length_map]; assumption) | assumption | rfl | (simp [*]; done) | (simp [*]; omega))) rfl fun a hA => ?_
       refine gl hA rfl rfl (lo_call fn21 rfl (refbetween_any _ _ _)) rfl ?_
       rintro _ w ⟨rfl, hC⟩ a hA
       replace hH := HS.call0 hH hC
       clear hC
       refine sq hA (q_pick_t rfl rfl) rfl fun a hA => ?_
       refine asg hA fun a hA => ?_
       refine wpList_nil ?_
       refine hK2 _ _ ?_
       clear hK2
       replace hA := hA.s1 2
       refine wp_ret ?_
       refine post_ret hA (res_1 rfl hA rfl) ?_
       replace hH := hH.pick [] (Hs' := []) rfl
       exact ⟨_, rfl, by congr 1; symm; first | exact decide_eq_false (by unfold RightC; omega) | exact decide_eq_true (by unfold RightC; omega) | exact decide_eq_decide.2 (by unfold RightC; omega), hH⟩
      ·skip
       refine mv hA fun a hA => ?_
       refine gs hA rfl rfl rfl rfl fun a hA => ?_
       refine gs hA rfl rfl rfl rfl fun a hA => ?_
       refine gs hA rfl rfl rfl rfl fun a hA => ?_
       refine sq hA (q_pick_f rfl rfl) rfl fun a hA => ?_
       refine asg hA fun a hA => ?_
       refine wpList_nil ?_
       refine hK2 _ _ ?_
       clear hK2
       replace hA := hA.s1 2
       refine wp_ret ?_
       refine post_ret hA (res_1 rfl hA rfl) ?_
       replace hH := hH.pick [] (Hs' := []) rfl
       exact ⟨_, rfl, by congr 1; symm; first | exact decide_eq_false (by unfold RightC; omega) | exact decide_eq_true (by unfold RightC; omega) | exact decide_eq_decide.2 (by unfold RightC; omega), hH⟩
     ·skip
      refine mv hA fun a hA => ?_
      refine gs hA rfl rfl rfl rfl fun a hA => ?_
      refine gs hA rfl rfl rfl rfl fun a hA => ?_
      refine gs hA rfl rfl rfl rfl fun a hA => ?_
      refine sq hA (q_pick_f rfl rfl) rfl fun a hA => ?_
      refine mv hA fun a hA => ?_
      refine gs hA rfl rfl rfl rfl fun a hA => ?_
      refine gs hA rfl rfl rfl rfl fun a hA => ?_
      refine gs hA rfl rfl rfl rfl fun a hA => ?_
      refine sq hA (q_pick_f rfl rfl) rfl fun a hA => ?_
      refine asg hA fun a hA => ?_
      refine wpList_nil ?_
      refine hK2 _ _ ?_
      clear hK2
      replace hA := hA.s1 2
      refine wp_ret ?_
      refine post_ret hA (res_1 rfl hA rfl) ?_
      replace hH := hH.pick [] (Hs' := []) rfl
      exact ⟨_, rfl, by congr 1; symm; first | exact decide_eq_false (by unfold RightC; omega) | exact decide_eq_true (by unfold RightC; omega) | exact decide_eq_decide.2 (by unfold RightC; omega), hH⟩
    ·skip
     refine mv hA fun a hA => ?_
     refine gs hA rfl rfl rfl rfl fun a hA => ?_
     refine gs hA rfl rfl rfl rfl fun a hA => ?_
     refine gs hA rfl rfl rfl rfl fun a hA => ?_
     refine sq hA (q_pick_f rfl rfl) rfl fun a hA => ?_
     refine mv hA fun a hA => ?_
     refine gs hA rfl rfl rfl rfl fun a hA => ?_
     refine gs hA rfl rfl rfl rfl fun a hA => ?_
     refine gs hA rfl rfl rfl rfl fun a hA => ?_
     refine sq hA (q_pick_f rfl rfl) rfl fun a hA => ?_
     refine mv hA fun a hA => ?_
     refine gs hA rfl rfl rfl rfl fun a hA => ?_
     refine gs hA rfl rfl rfl rfl fun a hA => ?_
     refine gs hA rfl rfl rfl rfl fun a hA => ?_
     refine sq hA (q_pick_f rfl rfl) rfl fun a hA => ?_
     refine asg hA fun a hA => ?_
     refine wpList_nil ?_
     refine hK2 _ _ ?_
     clear hK2
     replace hA := hA.s1 2
     refine wp_ret ?_
     refine post_ret hA (res_1 rfl hA rfl) ?_
     replace hH := hH.pick [] (Hs' := []) rfl
     exact ⟨_, rfl, by congr 1; symm; first | exact decide_eq_false (by unfold RightC; omega) | exact decide_eq_true (by unfold RightC; omega) | exact decide_eq_decide.2 (by unfold RightC; omega), hH⟩
   ·skip
    refine mv hA fun a hA => ?_
    refine gs hA rfl rfl rfl rfl fun a hA => ?_
    refine gs hA rfl rfl rfl rfl fun a hA => ?_
    refine gs hA rfl rfl rfl rfl fun a hA => ?_
    refine sq hA (q_pick_f rfl rfl) rfl fun a hA => ?_
    refine mv hA fun a hA => ?_
    refine gs hA rfl rfl rfl rfl fun a hA => ?_
    refine gs hA rfl rfl rfl rfl fun a hA => ?_
    refine gs hA rfl rfl rfl rfl fun a hA => ?_
    refine sq hA (q_pick_f rfl rfl) rfl fun a hA => ?_
    refine mv hA fun a hA => ?_
    refine gs hA rfl rfl rfl rfl fun a hA => ?_
    refine gs hA rfl rfl rfl rfl fun a hA => ?_
    refine gs hA rfl rfl rfl rfl fun a hA => ?_
    refine sq hA (q_pick_f rfl rfl) rfl fun a hA => ?_
    refine mv hA fun a hA => ?_
    refine gs hA rfl rfl rfl rfl fun a hA => ?_
    refine gs hA rfl rfl rfl rfl fun a hA => ?_
    refine gs hA rfl rfl rfl rfl fun a hA => ?_
    refine sq hA (q_pick_f rfl rfl) rfl fun a hA => ?_
    refine asg hA fun a hA => ?_
    refine wpList_nil ?_
    refine hK2 _ _ ?_
    clear hK2
    replace hA := hA.s1 2
    refine wp_ret ?_
    refine post_ret hA (res_1 rfl hA rfl) ?_
    replace hH := hH.pick [] (Hs' := []) rfl
    exact ⟨_, rfl, by congr 1; symm; first | exact decide_eq_false (by unfold RightC; omega) | exact decide_eq_true (by unfold RightC; omega) | exact decide_eq_decide.2 (by unfold RightC; omega), hH⟩
  ·skip
   refine mv hA fun a hA => ?_
   refine gs hA rfl rfl rfl rfl fun a hA => ?_
   refine gs hA rfl rfl rfl rfl fun a hA => ?_
   refine gs hA rfl rfl rfl rfl fun a hA => ?_
   refine sq hA (q_pick_f rfl rfl) rfl fun a hA => ?_
   refine mv hA fun a hA => ?_
   refine gs hA rfl rfl rfl rfl fun a hA => ?_
   refine gs hA rfl rfl rfl rfl fun a hA => ?_
   refine gs hA rfl rfl rfl rfl fun a hA => ?_
   refine sq hA (q_pick_f rfl rfl) rfl fun a hA => ?_
   refine mv hA fun a hA => ?_
   refine gs hA rfl rfl rfl rfl fun a hA => ?_
   refine gs hA rfl rfl rfl rfl fun a hA => ?_
   refine gs hA rfl rfl rfl rfl fun a hA => ?_
   refine sq hA (q_pick_f rfl rfl) rfl fun a hA => ?_
   refine mv hA fun a hA => ?_
   refine gs hA rfl rfl rfl rfl fun a hA => ?_
   refine gs hA rfl rfl rfl rfl fun a hA => ?_
   refine gs hA rfl rfl rfl rfl fun a hA => ?_
   refine sq hA (q_pick_f rfl rfl) rfl fun a hA => ?_
   refine mv hA fun a hA => ?_
   refine gs hA rfl rfl rfl rfl fun a hA => ?_
   refine gs hA rfl rfl rfl rfl fun a hA => ?_
   refine gs hA rfl rfl rfl rfl fun a hA => ?_
   refine sq hA (q_pick_f rfl rfl) rfl fun a hA => ?_
   refine asg hA fun a hA => ?_
   refine wpList_nil ?_
   refine hK2 _ _ ?_
   clear hK2
   replace hA := hA.s1 2
   refine wp_ret ?_
   refine post_ret hA (res_1 rfl hA rfl) ?_
   replace hH := hH.pick [] (Hs' := []) rfl
   exact ⟨_, rfl, by congr 1; symm; first | exact decide_eq_false (by unfold RightC; omega) | exact decide_eq_true (by unfold RightC; omega) | exact decide_eq_decide.2 (by unfold RightC; omega), hH⟩
 ·skip
  refine mv hA fun a hA => ?_
  refine gs hA rfl rfl rfl rfl fun a hA => ?_
  refine gs hA rfl rfl rfl rfl fun a hA => ?_
  refine gs hA rfl rfl rfl rfl fun a hA => ?_
  refine gs hA rfl rfl rfl rfl fun a hA => ?_
  refine gs hA rfl rfl rfl rfl fun a hA => ?_
  refine gs hA rfl rfl rfl rfl fun a hA => ?_
  refine gs hA rfl rfl rfl rfl fun a hA => ?_
  refine sq hA (q_pick_f rfl rfl) rfl fun a hA => ?_
  refine mv hA fun a hA => ?_
  refine gs hA rfl rfl rfl rfl fun a hA => ?_
  refine gs hA rfl rfl rfl rfl fun a hA => ?_
  refine gs hA rfl rfl rfl rfl fun a hA => ?_
  refine sq hA (q_pick_f rfl rfl) rfl fun a hA => ?_
  refine mv hA fun a hA => ?_
  refine gs hA rfl rfl rfl rfl fun a hA => ?_
  refine gs hA rfl rfl rfl rfl fun a hA => ?_
  refine gs hA rfl rfl rfl rfl fun a hA => ?_
  refine sq hA (q_pick_f rfl rfl) rfl fun a hA => ?_
  refine mv hA fun a hA => ?_
  refine gs hA rfl rfl rfl rfl fun a hA => ?_
  refine gs hA rfl rfl rfl rfl fun a hA => ?_
  refine gs hA rfl rfl rfl rfl fun a hA => ?_
  refine sq hA (q_pick_f rfl rfl) rfl fun a hA => ?_
  refine mv hA fun a hA => ?_
  refine gs hA rfl rfl rfl rfl fun a hA => ?_
  refine gs hA rfl rfl rfl rfl fun a hA => ?_
  refine gs hA rfl rfl rfl rfl fun a hA => ?_
  refine sq hA (q_pick_f rfl rfl) rfl fun a hA => ?_
  refine mv hA fun a hA => ?_
  refine gs hA rfl rfl rfl rfl fun a hA => ?_
  refine gs hA rfl rfl rfl rfl fun a hA => ?_
  refine gs hA rfl rfl rfl rfl fun a hA => ?_
  refine sq hA (q_pick_f rfl rfl) rfl fun a hA => ?_
  refine asg hA fun a hA => ?_
  refine wpList_nil ?_
  refine hK2 _ _ ?_
  clear hK2
  replace hA := hA.s1 2
  refine wp_ret ?_
  refine post_ret hA (res_1 rfl hA rfl) ?_
  replace hH := hH.pick [] (Hs' := []) rfl
  exact ⟨_, rfl, by congr 1; symm; first | exact decide_eq_false (by unfold RightC; omega) | exact decide_eq_true (by unfold RightC; omega) | exact decide_eq_decide.2 (by unfold RightC; omega), hH⟩

theorem heavy22_any {w0 : World} (cs : List Int) (hcs : cs.length = 7) :
    Calls Tryz.prog 4 #[(.agg ((cs).map I).toArray)] w0 (Ret fun r w' => r = .bool (decide (16 < cs.getD 3 0 ∧ cs.getD 3 0 ≤ 256 ∨ 2 < cs.getD 2 0 ∧ cs.getD 2 0 ≤ 6)) ∧ HS [] w0 w' []) := by
 have hH := HS.start w0
 refine start (n := 21) (E := [(0, _)]) Tryz.func4 rfl rfl rfl (args_look rfl) ?_
 intro a hA
 refine wp_seq_k fun K1 hK1 => ?_
 refine wp_region_lit ?_
 refine sl hA (lo_boxA hH rfl) rfl ?_
 clear hH; rintro _ w ⟨b_t1, rfl, hH⟩ a hA
 refine asg hA fun a hA => ?_
 refine wpList_nil ?_
 refine hK1 _ _ ?_
 clear hK1
 replace hA := hA.s2 2 1
 refine wp_seq_k fun K2 hK2 => ?_
 refine wp_region_lit ?_
 refine sq hA (q_fld 3 Tryz.underlying23 rfl rfl ti3 rfl) rfl fun a hA => ?_
 refine sq hA (q_loadBm ((0 : Int)) hH 0 rfl Tryz.underlying3 rfl rfl (by first | omega | (simp; done) | (simp; omega) | (rw [List.length_map]; assumption) | assumption | rfl | (simp [*]; done) | (simp [*]; omega))) rfl fun a hA => ?_
 refine sq hA (q_gtrI (n := 16) rfl rfl) rfl fun a hA => ?_
 refine hA.spl (fun hs5 hA => ?_) (fun hs5 hA => ?_)
 ·skip
  refine mv hA fun a hA => ?_
  refine gq hA rfl rfl (q_fld 3 Tryz.underlying23 rfl rfl ti3 rfl) rfl fun a hA => ?_
  refine gq hA rfl rfl (q_loadBm ((0 : Int)) hH 0 rfl Tryz.underlying3 rfl rfl (by first | omega | (simp; done) | (simp; omega) | (rw [List.length_map]; assumption) | assumption | rfl | (simp [*]; done) | (simp [*]; omega))) rfl fun a hA => ?_
  refine gq hA rfl rfl (q_leqI (n := 256) rfl rfl) rfl fun a hA => ?_
  refine sq hA (q_pick_t rfl rfl) rfl fun a hA => ?_
  refine hA.spl (fun hs10 hA => ?_) (fun hs10 hA => ?_)
  ·skip
   refine mv hA fun a hA => ?_
   refine gs hA rfl rfl rfl rfl fun a hA => ?_
   refine gs hA rfl rfl rfl rfl fun a hA => ?_
   refine gs hA rfl rfl rfl rfl fun a hA => ?_
   refine gsU hA rfl rfl rfl rfl fun a hA => ?_
   refine gs0U hA rfl rfl rfl fun a hA => ?_
   refine gs0U hA rfl rfl rfl fun a hA => ?_
   refine gs0U hA rfl rfl rfl fun a hA => ?_
   refine gs hA rfl rfl rfl rfl fun a hA => ?_
   refine sq hA (q_pick_t rfl rfl) rfl fun a hA => ?_
   refine asg hA fun a hA => ?_
   refine wpList_nil ?_
   refine hK2 _ _ ?_
   clear hK2
   replace hA := hA.s1 2
   refine wp_ret ?_
   refine post_ret hA (res_1 rfl hA rfl) ?_
   replace hH := hH.pick [] (Hs' := []) rfl
   exact ⟨_, rfl, by congr 1; symm; first | exact decide_eq_false (by omega) | exact decide_eq_true (by omega) | exact decide_eq_decide.2 (by omega), hH⟩
  ·skip
   refine mv hA fun a hA => ?_
   refine gq hA rfl rfl (q_fld 2 Tryz.underlying23 rfl rfl ti3 rfl) rfl fun a hA => ?_
   refine gq hA rfl rfl (q_loadBm ((0 : Int)) hH 0 rfl Tryz.underlying3 rfl rfl (by first | omega | (simp; done) | (simp; omega) | (rw [List.length_map]; assumption) | assumption | rfl | (simp [*]; done) | (simp [*]; omega))) rfl fun a hA => ?_
   refine gq hA rfl rfl (q_gtrI (n := 2) rfl rfl) rfl fun a hA => ?_
   refine hA.spl (fun hs14 hA => ?_) (fun hs14 hA => ?_)
   ·skip
    refine gq hA rfl rfl (q_move rfl) rfl fun a hA => ?_
    refine gq hA rfl rfl (q_fld 2 Tryz.underlying23 rfl rfl ti3 rfl) rfl fun a hA => ?_
    refine gq hA rfl rfl (q_loadBm ((0 : Int)) hH 0 rfl Tryz.underlying3 rfl rfl (by first | omega | (simp; done) | (simp; omega) | (rw [List.length_map]; assumption) | assumption | rfl | (simp [*]; done) | (simp [*]; omega))) rfl fun a hA => ?_
    refine gq hA rfl rfl (q_leqI (n := 6) rfl rfl) rfl fun a hA => ?_
    refine gq hA rfl rfl (q_pick_t rfl rfl) rfl fun a hA => ?_
    refine sq hA (q_pick_f rfl rfl) rfl fun a hA => ?_
    refine asg hA fun a hA => ?_
    refine wpList_nil ?_
    refine hK2 _ _ ?_
    clear hK2
    replace hA := hA.s1 2
    refine wp_ret ?_
    refine post_ret hA (res_1 rfl hA rfl) ?_
    replace hH := hH.pick [] (Hs' := []) rfl
    exact ⟨_, rfl, by congr 1; symm; first | exact decide_eq_false (by omega) | exact decide_eq_true (by omega) | exact decide_eq_decide.2 (by omega), hH⟩
   ·skip
    refine gq hA rfl rfl (q_move rfl) rfl fun a hA => ?_
    refine gs hA rfl rfl rfl rfl fun a hA => ?_
    refine gs hA rfl rfl rfl rfl fun a hA => ?_
    refine gs hA rfl rfl rfl rfl fun a hA => ?_
    refine gq hA rfl rfl (q_pick_f rfl rfl) rfl fun a hA => ?_
    refine sq hA (q_pick_f rfl rfl) rfl fun a hA => ?_
    refine asg hA fun a hA => ?_
    refine wpList_nil ?_
    refine hK2 _ _ ?_
    clear hK2
    replace hA := hA.s1 2
    refine wp_ret ?_
    refine post_ret hA (res_1 rfl hA rfl) ?_
    replace hH := hH.pick [] (Hs' := []) rfl
    exact ⟨_, rfl, by congr 1; symm; first | exact decide_eq_false (by omega) | exact decide_eq_true (by omega) | exact decide_eq_decide.2 (by omega), hH⟩
 ·skip
  refine mv hA fun a hA => ?_
  refine gs hA rfl rfl rfl rfl fun a hA => ?_
  refine gs hA rfl rfl rfl rfl fun a hA => ?_
  refine gs hA rfl rfl rfl rfl fun a hA => ?_
  refine sq hA (q_pick_f rfl rfl) rfl fun a hA => ?_
  refine mv hA fun a hA => ?_
  refine gq hA rfl rfl (q_fld 2 Tryz.underlying23 rfl rfl ti3 rfl) rfl fun a hA => ?_
  refine gq hA rfl rfl (q_loadBm ((0 : Int)) hH 0 rfl Tryz.underlying3 rfl rfl (by first | omega | (simp; done) | (simp; omega) | (rw [List.length_map]; assumption) | assumption | rfl | (simp [*]; done) | (simp [*]; omega))) rfl fun a hA => ?_
  refine gq hA rfl rfl (q_gtrI (n := 2) rfl rfl) rfl fun a hA => ?_
  refine hA.spl (fun hs14 hA => ?_) (fun hs14 hA => ?_)
  ·skip
   refine gq hA rfl rfl (q_move rfl) rfl fun a hA => ?_
   refine gq hA rfl rfl (q_fld 2 Tryz.underlying23 rfl rfl ti3 rfl) rfl fun a hA => ?_
   refine gq hA rfl rfl (q_loadBm ((0 : Int)) hH 0 rfl Tryz.underlying3 rfl rfl (by first | omega | (simp; done) | (simp; omega) | (rw [List.length_map]; assumption) | assumption | rfl | (simp [*]; done) | (simp [*]; omega))) rfl fun a hA => ?_
   refine gq hA rfl rfl (q_leqI (n := 6) rfl rfl) rfl fun a hA => ?_
   refine gq hA rfl rfl (q_pick_t rfl rfl) rfl fun a hA => ?_
   refine sq hA (q_pick_f rfl rfl) rfl fun a hA => ?_
   refine asg hA fun a hA => ?_
   refine wpList_nil ?_
   refine hK2 _ _ ?_
   clear hK2
   replace hA := hA.s1 2
   refine wp_ret ?_
   refine post_ret hA (res_1 rfl hA rfl) ?_
   replace hH := hH.pick [] (Hs' := []) rfl
   exact ⟨_, rfl, by congr 1; symm; first | exact decide_eq_false (by omega) | exact decide_eq_true (by omega) | exact decide_eq_decide.2 (by omega), hH⟩
  ·skip
   refine gq hA rfl rfl (q_move rfl) rfl fun a hA => ?_
   refine gs hA rfl rfl rfl rfl fun a hA => ?_
   refine gs hA rfl rfl rfl rfl fun a hA => ?_
   refine gs hA rfl rfl rfl rfl fun a hA => ?_
   refine gq hA rfl rfl (q_pick_f rfl rfl) rfl fun a hA => ?_
   refine sq hA (q_pick_f rfl rfl) rfl fun a hA => ?_
   refine asg hA fun a hA => ?_
   refine wpList_nil ?_
   refine hK2 _ _ ?_
   clear hK2
   replace hA := hA.s1 2
   refine wp_ret ?_
   refine post_ret hA (res_1 rfl hA rfl) ?_
   replace hH := hH.pick [] (Hs' := []) rfl
   exact ⟨_, rfl, by congr 1; symm; first | exact decide_eq_false (by omega) | exact decide_eq_true (by omega) | exact decide_eq_decide.2 (by omega), hH⟩

set_option maxHeartbeats 1000000 in
theorem awake22_any {w0 : World} {lv : Nat} (hg : Gl lv w0)  :
    Calls Tryz.prog 6 #[] w0 (Ret fun r w' => r = .bool true ∧ HS [] w0 w' []) := by
 have hH := HS.start w0
 refine start (n := 66) (E := []) Tryz.func6 rfl rfl rfl (args_look rfl) ?_
 intro a hA
 obtain ⟨z, hz⟩ : ∃ z, z = (1#8 :: List.replicate 31 0#8) := ⟨_, rfl⟩
 have hsd : z.length = 32 := by rw [hz]; simp
 obtain ⟨K, hK⟩ : ∃ z, z = (2#8 :: List.replicate 31 0#8) := ⟨_, rfl⟩
 have hkey : K.length = 32 := by rw [hK]; simp
 obtain ⟨Z, hZe⟩ : ∃ z, z = List.replicate 32 0#8 := ⟨_, rfl⟩
 have hZ : Z.length = 32 := by rw [hZe]; simp
 have hn : R7 ((2 : Nat) : Int) ((0 : Nat) : Int) := by unfold R7 R5; omega
 have h20 : 2 ^ 0 = 1 := rfl
 have hM1 : MayO 1 0 0 [] [] := by unfold MayO; decide
 have hb1 := decO_back (key := K) (n := Z) hM1 hZ
 obtain ⟨e1, he1⟩ : ∃ e, e = encO K 1 0 0 [] [] Z := ⟨_, rfl⟩
 have hl1 : e1.1.length ≤ 200 := by have := bodyO_len (j := 1) (a := 0) (i := 0) (T := []) (P := []) (n := Z) (by decide) (by decide) (by decide) (by decide) (by decide) hZ; have hm := macV_length K (bodyO 1 0 0 [] [] Z); rw [he1, encO_ok hM1]; simp only [List.length_append, List.length_nil] at this ⊢; have e1 : ((1 : Int).toNat) = 1 := rfl; rw [e1]; simp only [Int.toNat_zero]; omega
 have hz1 : e1.2 = 0 := by rw [he1, encO_ok hM1]
 rw [← he1] at hb1
 obtain ⟨D1, hD1⟩ : ∃ D, D = decO K e1.1 := ⟨_, rfl⟩
 have hv1 : D1 = ((1, 0, 0, [], [], Z), 0) := by rw [hD1, hb1]; rfl
 have hi1 : D1.1.2.2.1 = 0 := by rw [hv1]
 have hy1 : D1.2 = 0 := by rw [hv1]
 have hM2 : MayO 2 0 0 [] [] := by unfold MayO; decide
 have hb2 := decO_back (key := K) (n := Z) hM2 hZ
 obtain ⟨e2, he2⟩ : ∃ e, e = encO K 2 0 0 [] [] Z := ⟨_, rfl⟩
 have hl2 : e2.1.length ≤ 200 := by have := bodyO_len (j := 2) (a := 0) (i := 0) (T := []) (P := []) (n := Z) (by decide) (by decide) (by decide) (by decide) (by decide) hZ; have hm := macV_length K (bodyO 2 0 0 [] [] Z); rw [he2, encO_ok hM2]; simp only [List.length_append, List.length_nil] at this ⊢; have e1 : ((2 : Int).toNat) = 2 := rfl; rw [e1]; simp only [Int.toNat_zero]; omega
 have hz2 : e2.2 = 0 := by rw [he2, encO_ok hM2]
 rw [← he2] at hb2
 obtain ⟨D2, hD2⟩ : ∃ D, D = decO K e2.1 := ⟨_, rfl⟩
 have hv2 : D2 = ((2, 0, 0, [], [], Z), 0) := by rw [hD2, hb2]; rfl
 have hi2 : D2.1.2.2.1 = 0 := by rw [hv2]
 have hy2 : D2.2 = 0 := by rw [hv2]
 have hne : ¬ e1.1 = e2.1 := by intro h; rw [h, ← hD2] at hD1; rw [hD1, hv2] at hv1; exact absurd (congrArg (fun q => q.1.1) hv1) (show ¬ (2 = 1) by decide)
 have hdo := otsK_dg z 2 D1.1.2.2.1 (txV (max (D1.1.1 : Int) 0).toNat (max (D1.1.2.1 : Int) 0).toNat (rightV D1.1.2.2.2.2.1) D1.1.2.2.2.2.2)
 have hlo := otsK_length z 2 D1.1.2.2.1 (txV (max (D1.1.1 : Int) 0).toNat (max (D1.1.2.1 : Int) 0).toNat (rightV D1.1.2.2.2.2.1) D1.1.2.2.2.2.2)
 have heg := encK_ge (i := (D1.1.2.2.1 : Int)) (B := pthK z 2 0 D1.1.2.2.1) hdo
 have hge := encR_ge D1.1.2.2.2.1 (rightV D1.1.2.2.2.2.1) (encK (D1.1.2.2.1 : Int) (otsK z 2 D1.1.2.2.1 (txV (max (D1.1.1 : Int) 0).toNat (max (D1.1.2.1 : Int) 0).toNat (rightV D1.1.2.2.2.2.1) D1.1.2.2.2.2.2)) (pthK z 2 0 D1.1.2.2.1))
 obtain ⟨A1, hA1⟩ : ∃ A, A = (encR D1.1.2.2.2.1 (rightV D1.1.2.2.2.2.1) (encK (D1.1.2.2.1 : Int) (otsK z 2 D1.1.2.2.1 (txV (max (D1.1.1 : Int) 0).toNat (max (D1.1.2.1 : Int) 0).toNat (rightV D1.1.2.2.2.2.1) D1.1.2.2.2.2.2)) (pthK z 2 0 D1.1.2.2.1))) := ⟨_, rfl⟩
 rw [← hA1] at hge
 have hal : 100 < A1.length := by omega
 refine wp_seq_k fun K1 hK1 => ?_
 refine wp_region_lit ?_
 refine asg hA fun a hA => ?_
 refine wpList_nil ?_
 refine hK1 _ _ ?_
 clear hK1
 refine wp_seq_k fun K2 hK2 => ?_
 refine wp_region_lit ?_
 refine sl hA (lo_call fn16 rfl (small_any _ _)) rfl ?_
 rintro _ w ⟨rfl, hC⟩ a hA
 replace hH := HS.call0 hH hC
 clear hC
 refine sq hA (q_build (v := .agg (((1#8 :: List.replicate 31 0#8) : List _).map B8).toArray) rfl (fun w => by kernel_rfl)) rfl fun a hA => ?_
 rw [← hz] at hA
 refine sq hA (q_build (v := .agg (((2#8 :: List.replicate 31 0#8) : List _).map B8).toArray) rfl (fun w => by kernel_rfl)) rfl fun a hA => ?_
 rw [← hK] at hA
 refine sl hA (lo_call fn7 rfl (neww_any (hg.mono0 hH) ([0, 1, 0, 2, 1, 1, 0] : List Int) rfl (by unfold RightC; decide) z hsd K hkey 2 0 rfl rfl hn)) rfl ?_
 rintro _ w ⟨b_w, b_k, b_s, b_m, v_l, N_l, rfl, hO_l, hC⟩ a hA
 replace hH := HS.call0 hH hC
 clear hC
 refine mv hA fun a hA => ?_
 refine sq hA (q_extract rfl rfl) rfl fun a hA => ?_
 refine sq hA (q_extract rfl rfl) rfl fun a hA => ?_
 refine asg hA fun a hA => ?_
 refine asg hA fun a hA => ?_
 refine wpList_nil ?_
 refine hK2 _ _ ?_
 clear hK2
 replace hA := hA.s3 2 1 0
 refine wp_seq_k fun K3 hK3 => ?_
 refine wp_region_lit ?_
 refine sq hA (q_build (v := .agg (((2#8 :: List.replicate 31 0#8) : List _).map B8).toArray) rfl (fun w => by kernel_rfl)) rfl fun a hA => ?_
 rw [← hK] at hA
 refine sq hA (q_build (v := (.agg (ordC 1 0 0 nilV nilV (List.replicate 32 0#8)).toArray)) (vs := [(0, I 1)]) rfl (fun w => by kernel_rfl)) rfl fun a hA => ?_
 rw [← hZe] at hA
 refine sl hA (lo_call fn17 rfl (encw_any (hg.mono0 hH) _ (by first | assumption | (rw [List.length_map]; assumption) | rfl | exact sha_length _ | (simp; done) | (simp [*]; done) | omega) _ _ _ _ _ _ _ By.nilV By.nilV (by first | omega | (simp; done) | (simp; omega)) (by first | omega | (simp; done) | (simp; omega)) _ (by first | assumption | (rw [List.length_map]; assumption) | rfl | exact sha_length _ | (simp; done) | (simp [*]; done) | omega))) rfl ?_
 rintro _ w ⟨v_t21, N_t21, rfl, hO_t21, hC⟩ a hA
 replace hH := HS.call0 hH hC
 clear hC
 rw [← he1] at hA hO_t21
 refine mv hA fun a hA => ?_
 refine sq hA (q_extract rfl rfl) rfl fun a hA => ?_
 refine sq hA (q_extract rfl rfl) rfl fun a hA => ?_
 refine asg hA fun a hA => ?_
 refine asg hA fun a hA => ?_
 refine wpList_nil ?_
 refine hK3 _ _ ?_
 clear hK3
 replace hA := hA.s5 4 3 2 1 0
 refine wp_seq_k fun K4 hK4 => ?_
 refine wp_region_lit ?_
 refine mv hA fun a hA => ?_
 refine mv hA fun a hA => ?_
 replace hH := hH.pick [1, 2, 5, 0, 3, 4] (Hs' := [_, _, _, _, _, _]) rfl
 refine sl hA (lo_call fn12 rfl (hear_new (hg.mono0 hH) K hkey z hsd 2 0 hn v_l b_w b_k b_s b_m (Gl.ngs (Ns1 := [_, _, _]) hg NG.nil hH) (HS.boxDM (Ns1 := [_, _, _]) hH 1 rfl hsd) (Own.rdM hO_l (Ns1 := [_, _, _]) hH 2 rfl) 0 (by omega) [] _ _ (Own.rdM hO_t21 (Ns1 := [_, _, _]) hH 0 rfl) (by first | omega | (simp; done) | (simp; omega)) D1 hD1 hy1 rfl (by omega) (by omega) (HS.handed (Ns1 := [_, _, _]) hH))) rfl ?_
 rintro _ w ⟨v_t27, v_ot27, v_at27, N_t27, N_ot27, N_at27, rfl, hO_t27, hO_ot27, hO_at27, hC⟩ a hA
 replace hH := HS.call (Ns1 := [_, _, _]) hH hC
 clear hC
 rw [← hA1] at hO_t27
 refine mv hA fun a hA => ?_
 refine sq hA (q_extract rfl rfl) rfl fun a hA => ?_
 refine sq hA (q_extract rfl rfl) rfl fun a hA => ?_
 refine asg hA fun a hA => ?_
 refine asg hA fun a hA => ?_
 refine wpList_nil ?_
 refine hK4 _ _ ?_
 clear hK4
 replace hA := hA.s6 6 5 4 2 1 0
 refine wp_seq_k fun K5 hK5 => ?_
 refine wp_region_lit ?_
 refine sq hA (q_build (v := .agg (((2#8 :: List.replicate 31 0#8) : List _).map B8).toArray) rfl (fun w => by kernel_rfl)) rfl fun a hA => ?_
 rw [← hK] at hA
 refine sq hA (q_build (v := (.agg (ordC 2 0 0 nilV nilV (List.replicate 32 0#8)).toArray)) (vs := [(0, I 2)]) rfl (fun w => by kernel_rfl)) rfl fun a hA => ?_
 rw [← hZe] at hA
 refine sl hA (lo_call fn17 rfl (encw_any (hg.mono0 hH) _ (by first | assumption | (rw [List.length_map]; assumption) | rfl | exact sha_length _ | (simp; done) | (simp [*]; done) | omega) _ _ _ _ _ _ _ By.nilV By.nilV (by first | omega | (simp; done) | (simp; omega)) (by first | omega | (simp; done) | (simp; omega)) _ (by first | assumption | (rw [List.length_map]; assumption) | rfl | exact sha_length _ | (simp; done) | (simp [*]; done) | omega))) rfl ?_
 rintro _ w ⟨v_t33, N_t33, rfl, hO_t33, hC⟩ a hA
 replace hH := HS.call0 hH hC
 clear hC
 rw [← he2] at hA hO_t33
 refine mv hA fun a hA => ?_
 refine sq hA (q_extract rfl rfl) rfl fun a hA => ?_
 refine sq hA (q_extract rfl rfl) rfl fun a hA => ?_
 refine asg hA fun a hA => ?_
 refine asg hA fun a hA => ?_
 refine wpList_nil ?_
 refine hK5 _ _ ?_
 clear hK5
 replace hA := hA.s7 7 6 5 4 2 1 0
 refine wp_seq_k fun K6 hK6 => ?_
 refine wp_region_lit ?_
 refine mv hA fun a hA => ?_
 refine mv hA fun a hA => ?_
 replace hH := hH.pick [1, 2, 3, 0, 4, 5, 6, 7, 8, 9] (Hs' := [_, _, _, _, _, _, _, _, _, _]) rfl
 refine sl hA (lo_call fn12 rfl (hear_state (hg.mono0 hH) K hkey z hsd 2 0 hn v_l b_w b_k b_s b_m (Gl.ngs (Ns1 := [_, _, _]) hg NG.nil hH) (HS.boxDM (Ns1 := [_, _, _]) hH 5 rfl hsd) (Own.rdM hO_l (Ns1 := [_, _, _]) hH 6 rfl) (D1.1.2.2.1 + 1) (by omega) [((D1.1.2.2.1 : Int), Value.agg #[v_ot27, v_at27])] _ _ (Own.rdM hO_t33 (Ns1 := [_, _, _]) hH 0 rfl) (by first | omega | (simp; done) | (simp; omega)) D2 hD2 hy2 v_ot27 v_at27 e1.1 _ (by rw [hi1, hi2]; rfl) (Own.rdM hO_ot27 (Ns1 := [_, _, _]) hH 2 rfl) (Own.rdM hO_at27 (Ns1 := [_, _, _]) hH 3 rfl) hne (HS.handed (Ns1 := [_, _, _]) hH))) rfl ?_
 rintro _ w ⟨rfl, hC⟩ a hA
 replace hH := HS.call (Ns1 := [_, _, _]) hH hC
 clear hC
 refine mv hA fun a hA => ?_
 refine sq hA (q_extract rfl rfl) rfl fun a hA => ?_
 refine sq hA (q_extract rfl rfl) rfl fun a hA => ?_
 refine asg hA fun a hA => ?_
 refine asg hA fun a hA => ?_
 refine wpList_nil ?_
 refine hK6 _ _ ?_
 clear hK6
 replace hA := hA.s6 10 6 5 4 2 0
 refine wp_seq_k fun K7 hK7 => ?_
 refine wp_region_lit ?_
 refine mv hA fun a hA => ?_
 refine sq hA (q_eqlI (n := 0) rfl rfl) rfl fun a hA => ?_
 replace hA := hA.decT (by rfl)
 refine mv hA fun a hA => ?_
 refine gq hA rfl rfl (q_move rfl) rfl fun a hA => ?_
 refine gq hA rfl rfl (q_eqlI (n := 0) rfl rfl) rfl fun a hA => ?_
 replace hA := hA.decT (by omega)
 refine sq hA (q_pick_t rfl rfl) rfl fun a hA => ?_
 refine mv hA fun a hA => ?_
 refine gq hA rfl rfl (q_move rfl) rfl fun a hA => ?_
 refine gq hA rfl rfl (q_eqlI (n := 0) rfl rfl) rfl fun a hA => ?_
 replace hA := hA.decT (by rfl)
 refine sq hA (q_pick_t rfl rfl) rfl fun a hA => ?_
 refine mv hA fun a hA => ?_
 refine gq hA rfl rfl (q_move rfl) rfl fun a hA => ?_
 refine gq hA rfl rfl (q_eqlI (n := 212) rfl rfl) rfl fun a hA => ?_
 replace hA := hA.decT (by rfl)
 refine sq hA (q_pick_t rfl rfl) rfl fun a hA => ?_
 refine mv hA fun a hA => ?_
 refine gq hA rfl rfl (q_move rfl) rfl fun a hA => ?_
 refine gq hA rfl rfl (q_len Tryz.underlying41 rfl (Own.shp hO_t27)) rfl fun a hA => ?_
 refine gq hA rfl rfl (q_gtrI (n := 100) rfl rfl) rfl fun a hA => ?_
 replace hA := hA.decT (by omega)
 refine sq hA (q_pick_t rfl rfl) rfl fun a hA => ?_
 refine mv hA fun a hA => ?_
 refine gl hA rfl rfl (lo_call fn18 rfl (right22_any (hg.mono0 hH) _ [] By.nilV (by decide))) rfl ?_
 rintro _ w ⟨v_t62, N_t62, rfl, hO_t62, hC⟩ a hA
 replace hH := HS.call0 hH hC
 clear hC
 refine gq hA rfl rfl (q_len Tryz.underlying41 rfl (Own.shp hO_t62)) rfl fun a hA => ?_
 refine gq hA rfl rfl (q_eqlI (n := 8) rfl rfl) rfl fun a hA => ?_
 replace hA := hA.decT (by first | omega | (simp [rightV_length]; done))
 refine sq hA (q_pick_t rfl rfl) rfl fun a hA => ?_
 refine asg hA fun a hA => ?_
 refine wpList_nil ?_
 refine hK7 _ _ ?_
 clear hK7
 replace hA := hA.s1 0
 refine wp_ret ?_
 refine post_ret hA (res_1 rfl hA rfl) ?_
 replace hH := hH.pick [] (Hs' := []) rfl
 exact ⟨_, rfl, rfl, hH⟩

end Go.Proofs.YtnnkgdijaekcfaaGreatDoor
