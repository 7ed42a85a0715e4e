/- Layer 7 (keys): signatures compared, copied, verified. -/
import Derived.Test.YtnnkgdijaekcfaaDoorHa
import Derived.Test.YtnnkgdijaekcfaaDoorCb
import Derived.Test.YtnnkgdijaekcfaaDoorMzc
namespace Go.Proofs.YtnnkgdijaekcfaaDoor
open Go
set_option linter.unusedVariables false
set_option linter.unusedSimpArgs false
set_option maxRecDepth 100000

theorem same7_any {w0 : World} (i : Int) (u x : Value) (A B : List Bs) (hdA : Dg A) (hdB : Dg B) (hu : RdD [] w0 u A) (hx : RdD [] w0 x B) (hlA : A.length ≤ 1048576) (hlB : B.length ≤ 1048576) (j : Int) (v y : Value) (C D : List Bs) (hdC : Dg C) (hdD : Dg D) (hv : RdD [] w0 v C) (hy : RdD [] w0 y D) (hlC : C.length ≤ 1048576) (hlD : D.length ≤ 1048576) :
    Calls Tryd.prog 51 #[(.agg #[I i, u, x]), (.agg #[I j, v, y])] w0 (Ret fun r w' => r = .bool (decide (i = j ∧ A = C ∧ B = D)) ∧ HS [] w0 w' []) := by
 have hH := HS.start w0
 refine start (n := 24) (E := [(0, _), (1, _)]) Tryd.func51 rfl rfl rfl (args_look rfl) ?_
 intro a hA
 refine wp_seq_k fun K1 hK1 => ?_
 refine wp_region_lit ?_
 refine sl hA (lo_boxA hH rfl) rfl ?_
 clear hH; rintro _ w ⟨b_t2, rfl, hH⟩ a hA
 refine sl hA (lo_boxA hH rfl) rfl ?_
 clear hH; rintro _ w ⟨b_t3, rfl, hH⟩ a hA
 refine asg hA fun a hA => ?_
 refine wpList_nil ?_
 refine hK1 _ _ ?_
 clear hK1
 replace hA := hA.s3 4 3 2
 refine wp_seq_k fun K2 hK2 => ?_
 refine wp_region_lit ?_
 refine sq hA (q_fld 0 Tryd.underlying27 rfl rfl ti3 rfl) rfl fun a hA => ?_
 refine sq hA (q_loadB hH 1 rfl (List.mem_singleton.2 rfl) Tryd.underlying3 rfl rfl rfl) rfl fun a hA => ?_
 refine sq hA (q_fld 0 Tryd.underlying27 rfl rfl ti3 rfl) rfl fun a hA => ?_
 refine sq hA (q_loadB hH 0 rfl (List.mem_singleton.2 rfl) Tryd.underlying3 rfl rfl rfl) rfl fun a hA => ?_
 refine sq hA (q_eqlI rfl rfl) rfl fun a hA => ?_
 refine hA.spl (fun hs9 hA => ?_) (fun hs9 hA => ?_)
 ·skip
  refine mv hA fun a hA => ?_
  refine gq hA rfl rfl (q_fld 1 Tryd.underlying27 rfl rfl ti25 rfl) rfl fun a hA => ?_
  refine gq hA rfl rfl (q_loadB hH 1 rfl (List.mem_singleton.2 rfl) Tryd.underlying25 rfl rfl rfl) rfl fun a hA => ?_
  refine gq hA rfl rfl (q_fld 1 Tryd.underlying27 rfl rfl ti25 rfl) rfl fun a hA => ?_
  refine gq hA rfl rfl (q_loadB hH 0 rfl (List.mem_singleton.2 rfl) Tryd.underlying25 rfl rfl rfl) rfl fun a hA => ?_
  refine gl hA rfl rfl (lo_call fn99 rfl (sameD_any _ _ _ _ (by assumption) (by assumption) (hH.rd hu) (hH.rd hv) (by first | omega | (simp; done) | (simp; omega)) (by first | omega | (simp; done) | (simp; omega)))) rfl ?_
  rintro _ w ⟨rfl, hC⟩ a hA
  replace hH := HS.call0 hH hC
  clear hC
  refine sq hA (q_pick_t rfl rfl) rfl fun a hA => ?_
  refine hA.spl (fun hs16 hA => ?_) (fun hs16 hA => ?_)
  ·skip
   refine mv hA fun a hA => ?_
   refine gq hA rfl rfl (q_fld 2 Tryd.underlying27 rfl rfl ti25 rfl) rfl fun a hA => ?_
   refine gq hA rfl rfl (q_loadB hH 1 rfl (List.mem_singleton.2 rfl) Tryd.underlying25 rfl rfl rfl) rfl fun a hA => ?_
   refine gq hA rfl rfl (q_fld 2 Tryd.underlying27 rfl rfl ti25 rfl) rfl fun a hA => ?_
   refine gq hA rfl rfl (q_loadB hH 0 rfl (List.mem_singleton.2 rfl) Tryd.underlying25 rfl rfl rfl) rfl fun a hA => ?_
   refine gl hA rfl rfl (lo_call fn99 rfl (sameD_any _ _ _ _ (by assumption) (by assumption) (hH.rd hx) (hH.rd hy) (by first | omega | (simp; done) | (simp; omega)) (by first | omega | (simp; done) | (simp; omega)))) rfl ?_
   rintro _ w ⟨rfl, hC⟩ a hA
   replace hH := HS.call0 hH hC
   clear hC
   refine sq hA (q_pick_t rfl rfl) rfl fun a hA => ?_
   refine asg hA fun a hA => ?_
   refine wpList_nil ?_
   refine hK2 _ _ ?_
   clear hK2
   replace hA := hA.s1 4
   refine wp_ret ?_
   refine post_ret hA (res_1 rfl hA rfl) ?_
   replace hH := hH.pick [] (Hs' := []) rfl
   exact ⟨_, rfl, by congr 1; symm; first | exact decide_eq_false (fun hV => by obtain ⟨h1, h2, h3⟩ := hV; contradiction) | exact decide_eq_decide.2 ⟨fun hV => hV.2.2, fun hV => ⟨by assumption, by assumption, hV⟩⟩, hH⟩
  ·skip
   refine mv hA fun a hA => ?_
   refine gs hA rfl rfl rfl rfl fun a hA => ?_
   refine gs hA rfl rfl rfl rfl fun a hA => ?_
   refine gs hA rfl rfl rfl rfl fun a hA => ?_
   refine gs hA rfl rfl rfl rfl fun a hA => ?_
   refine gs hA rfl rfl rfl rfl fun a hA => ?_
   refine sq hA (q_pick_f rfl rfl) rfl fun a hA => ?_
   refine asg hA fun a hA => ?_
   refine wpList_nil ?_
   refine hK2 _ _ ?_
   clear hK2
   replace hA := hA.s1 4
   refine wp_ret ?_
   refine post_ret hA (res_1 rfl hA rfl) ?_
   replace hH := hH.pick [] (Hs' := []) rfl
   exact ⟨_, rfl, by congr 1; symm; first | exact decide_eq_false (fun hV => by obtain ⟨h1, h2, h3⟩ := hV; contradiction) | exact decide_eq_decide.2 ⟨fun hV => hV.2.2, fun hV => ⟨by assumption, by assumption, hV⟩⟩, hH⟩
 ·skip
  refine mv hA fun a hA => ?_
  refine gs hA rfl rfl rfl rfl fun a hA => ?_
  refine gs hA rfl rfl rfl rfl fun a hA => ?_
  refine gs hA rfl rfl rfl rfl fun a hA => ?_
  refine gs hA rfl rfl rfl rfl fun a hA => ?_
  refine gs hA rfl rfl rfl rfl fun a hA => ?_
  refine sq hA (q_pick_f rfl rfl) rfl fun a hA => ?_
  refine mv hA fun a hA => ?_
  refine gs hA rfl rfl rfl rfl fun a hA => ?_
  refine gs hA rfl rfl rfl rfl fun a hA => ?_
  refine gs hA rfl rfl rfl rfl fun a hA => ?_
  refine gs hA rfl rfl rfl rfl fun a hA => ?_
  refine gs hA rfl rfl rfl rfl fun a hA => ?_
  refine sq hA (q_pick_f rfl rfl) rfl fun a hA => ?_
  refine asg hA fun a hA => ?_
  refine wpList_nil ?_
  refine hK2 _ _ ?_
  clear hK2
  replace hA := hA.s1 4
  refine wp_ret ?_
  refine post_ret hA (res_1 rfl hA rfl) ?_
  replace hH := hH.pick [] (Hs' := []) rfl
  exact ⟨_, rfl, by congr 1; symm; first | exact decide_eq_false (fun hV => by obtain ⟨h1, h2, h3⟩ := hV; contradiction) | exact decide_eq_decide.2 ⟨fun hV => hV.2.2, fun hV => ⟨by assumption, by assumption, hV⟩⟩, hH⟩

theorem copy7_any {w0 : World} (ix : Int) (u x : Value) (A B : List Bs) (hdA : Dg A) (hdB : Dg B) (hu : RdD [] w0 u A) (hx : RdD [] w0 x B) (hlA : A.length ≤ 1048576) (hlB : B.length ≤ 1048576) :
    Calls Tryd.prog 59 #[(.agg #[I ix, u, x])] w0 (Ret fun r w' => ∃ u' x' N1 N2, r = .agg #[I ix, u', x'] ∧ OwD 24 u' A N1 ∧ OwD 24 x' B N2 ∧ HS [] w0 w' [N1, N2]) := by
 have hH := HS.start w0
 refine start (n := 14) (E := [(0, _)]) Tryd.func59 rfl rfl rfl (args_look rfl) ?_
 intro a hA
 refine wp_seq_k fun K1 hK1 => ?_
 refine wp_region_lit ?_
 refine sl hA (lo_boxA hH rfl) rfl ?_
 clear hH; rintro _ w ⟨b_t1, rfl, hH⟩ a hA
 refine sl hA (lo_allocA hH ti27) rfl ?_
 clear hH; rintro _ w ⟨b_t2, rfl, hH⟩ a hA
 refine wpList_nil ?_
 refine hK1 _ _ ?_
 clear hK1
 replace hA := hA.s2 2 1
 refine wp_seq_k fun K2 hK2 => ?_
 refine any_go mixed (fun j => !(Nat.beq j 11)) hH ?_
 clear hH; intro w hH
 have hS := hH
 refine any_l 12 ?_
 refine p0 hA 0 1 rfl (fun w => (q_fld 0 Tryd.underlying27 rfl rfl ti3 rfl)) fun a hA => ?_
 refine r0 hA 1 3 rfl hS (fun w hH => (q_loadB hH 1 rfl (List.mem_singleton.2 rfl) Tryd.underlying3 rfl rfl rfl)) fun a hA => ?_
 refine p0 hA 3 11 rfl (fun w => (q_fld 1 Tryd.underlying27 rfl rfl ti25 rfl)) fun a hA => ?_
 refine r0 hA 4 27 rfl hS (fun w hH => (q_loadB hH 1 rfl (List.mem_singleton.2 rfl) Tryd.underlying25 rfl rfl rfl)) fun a hA => ?_
 refine p0 hA 7 155 rfl (fun w => (q_fld 2 Tryd.underlying27 rfl rfl ti25 rfl)) fun a hA => ?_
 refine r0 hA 8 411 rfl hS (fun w hH => (q_loadB hH 1 rfl (List.mem_singleton.2 rfl) Tryd.underlying25 rfl rfl rfl)) fun a hA => ?_
 refine a_ch2 (i := 2) (j := 6) (by kernel_rfl) ?_ ?_
 ·skip
  refine o1 hA 2 415 rfl (lo_buildSlice (e := 24) (vs := []) (cs := []) (k := 32) (bb := 0) (z := undef) hH rfl rfl (fun w => by kernel_rfl)) ?_
  clear hH; rintro v_t5 w ⟨N_t5, hO_t5, hH⟩
  replace hO_t5 : OwD 24 v_t5 [] N_t5 := hO_t5
  replace hS := hH.pick [1, 2] (Hs' := [_, _]) rfl
  refine ⟨fun _ _ => hS, ?_⟩
  intro a hA
  refine a_ch2 (i := 5) (j := 6) (by kernel_rfl) ?_ ?_
  ·skip
   refine o1 hA 5 447 rfl (lo_appD hH Tryd.underlying25 Tryd.underlying25 (.inl rfl) ti24 rfl rfl rfl hO_t5 (hH.rd hu) (by first | omega | (simp; done) | (simp; omega)) (by first | omega | (simp; done) | (simp; omega))) ?_
   clear hH; rintro v_t8 w ⟨N_t8, hO_t8, hH⟩
   replace hS := hH.pick [1, 2] (Hs' := [_, _]) rfl
   refine ⟨fun _ _ => hS, ?_⟩
   intro a hA
   refine a1 hA 6 511 rfl (lo_buildSlice (e := 24) (vs := []) (cs := []) (k := 32) (bb := 0) (z := undef) hH rfl rfl (fun w => by kernel_rfl)) ?_
   clear hH; rintro v_t9 w ⟨N_t9, hO_t9, hH⟩
   replace hO_t9 : OwD 24 v_t9 [] N_t9 := hO_t9
   replace hS := hH.pick [2, 3] (Hs' := [_, _]) rfl
   refine ⟨fun _ _ => hS, ?_⟩
   intro a hA
   refine a1 hA 9 1023 rfl (lo_appD hH Tryd.underlying25 Tryd.underlying25 (.inl rfl) ti24 rfl rfl rfl hO_t9 (hH.rd hx) (by first | omega | (simp; done) | (simp; omega)) (by first | omega | (simp; done) | (simp; omega))) ?_
   clear hH; rintro v_t12 w ⟨N_t12, hO_t12, hH⟩
   replace hS := hH.pick [2, 3] (Hs' := [_, _]) rfl
   refine ⟨fun _ _ => hS, ?_⟩
   intro a hA
   refine p0 hA 10 2047 rfl (fun w => (q_buildC (css := [_, [v_t8], [v_t12]]) (z := [(I 0), (.slice none 0 0), (.slice none 0 0)]) (BT.mk (pl := [(0, 1), (1, 1), (2, 1)]) (it := Tryd.t27) (by kernel_rfl) Tryd.underlying27 (by kernel_rfl) (by kernel_rfl)) rfl ⟨rfl, ⟨_, rfl, by first | rfl | (simp [Value.cells]; done) | (simp [Value.cells, *]; done), by decide⟩, cells_one (Own.one hO_t8), ⟨_, rfl, by first | rfl | (simp [Value.cells]; done) | (simp [Value.cells, *]; done), by decide⟩, cells_one (Own.one hO_t12), ⟨_, rfl, by first | rfl | (simp [Value.cells]; done) | (simp [Value.cells, *]; done), by decide⟩, trivial⟩)) fun a hA => ?_
   replace hH := hH.pick [2, 0, 1, 3] (Hs' := [_, _, _, _]) rfl
   refine a0n hA 11 4095 rfl (lo_storeAm hH ti27 rfl rfl (rfl) (rfl) (ones_cons rfl (ones_cons (Own.one hO_t8) (ones_cons (Own.one hO_t12) ones_nil)))) ?_
   clear hH; rintro _ w hH
   refine a_end (by kernel_rfl) ?_ _
   refine hK2 _ _ ?_
   clear hK2
   replace hA := hA.s1 2
   refine wp_ret ?_
   refine post_ret hA (res_c rfl hA rfl (resW hH 0 rfl Tryd.underlying27 rfl ti27 (by first | assumption | (rw [List.length_map]; assumption) | rfl | exact sha_length _ | (simp; done) | (simp [*]; done) | omega))) ?_
   replace hH := hH.pick [2, 1, 0, 3] (Hs' := [_, _, _, _]) rfl
   replace hH := hH.pick [0, 1] (Hs' := [_, _]) rfl
   exact ⟨_, rfl, v_t8, v_t12, N_t8, N_t12, rfl, by simpa using hO_t8, by simpa using hO_t12, hH⟩
  ·skip
   refine o1 hA 6 479 rfl (lo_buildSlice (e := 24) (vs := []) (cs := []) (k := 32) (bb := 0) (z := undef) hH rfl rfl (fun w => by kernel_rfl)) ?_
   clear hH; rintro v_t9 w ⟨N_t9, hO_t9, hH⟩
   replace hO_t9 : OwD 24 v_t9 [] N_t9 := hO_t9
   replace hS := hH.pick [2, 3] (Hs' := [_, _]) rfl
   refine ⟨fun _ _ => hS, ?_⟩
   intro a hA
   replace hH := hH.pick [1, 0, 2, 3] (Hs' := [_, _, _, _]) rfl
   refine a1 hA 5 511 rfl (lo_appD hH Tryd.underlying25 Tryd.underlying25 (.inl rfl) ti24 rfl rfl rfl hO_t5 (hH.rd hu) (by first | omega | (simp; done) | (simp; omega)) (by first | omega | (simp; done) | (simp; omega))) ?_
   clear hH; rintro v_t8 w ⟨N_t8, hO_t8, hH⟩
   replace hS := hH.pick [2, 3] (Hs' := [_, _]) rfl
   refine ⟨fun _ _ => hS, ?_⟩
   intro a hA
   replace hH := hH.pick [1, 0, 2, 3] (Hs' := [_, _, _, _]) rfl
   refine a1 hA 9 1023 rfl (lo_appD hH Tryd.underlying25 Tryd.underlying25 (.inl rfl) ti24 rfl rfl rfl hO_t9 (hH.rd hx) (by first | omega | (simp; done) | (simp; omega)) (by first | omega | (simp; done) | (simp; omega))) ?_
   clear hH; rintro v_t12 w ⟨N_t12, hO_t12, hH⟩
   replace hS := hH.pick [2, 3] (Hs' := [_, _]) rfl
   refine ⟨fun _ _ => hS, ?_⟩
   intro a hA
   refine p0 hA 10 2047 rfl (fun w => (q_buildC (css := [_, [v_t8], [v_t12]]) (z := [(I 0), (.slice none 0 0), (.slice none 0 0)]) (BT.mk (pl := [(0, 1), (1, 1), (2, 1)]) (it := Tryd.t27) (by kernel_rfl) Tryd.underlying27 (by kernel_rfl) (by kernel_rfl)) rfl ⟨rfl, ⟨_, rfl, by first | rfl | (simp [Value.cells]; done) | (simp [Value.cells, *]; done), by decide⟩, cells_one (Own.one hO_t8), ⟨_, rfl, by first | rfl | (simp [Value.cells]; done) | (simp [Value.cells, *]; done), by decide⟩, cells_one (Own.one hO_t12), ⟨_, rfl, by first | rfl | (simp [Value.cells]; done) | (simp [Value.cells, *]; done), by decide⟩, trivial⟩)) fun a hA => ?_
   replace hH := hH.pick [2, 0, 1, 3] (Hs' := [_, _, _, _]) rfl
   refine a0n hA 11 4095 rfl (lo_storeAm hH ti27 rfl rfl (rfl) (rfl) (ones_cons rfl (ones_cons (Own.one hO_t8) (ones_cons (Own.one hO_t12) ones_nil)))) ?_
   clear hH; rintro _ w hH
   refine a_end (by kernel_rfl) ?_ _
   refine hK2 _ _ ?_
   clear hK2
   replace hA := hA.s1 2
   refine wp_ret ?_
   refine post_ret hA (res_c rfl hA rfl (resW hH 0 rfl Tryd.underlying27 rfl ti27 (by first | assumption | (rw [List.length_map]; assumption) | rfl | exact sha_length _ | (simp; done) | (simp [*]; done) | omega))) ?_
   replace hH := hH.pick [2, 1, 0, 3] (Hs' := [_, _, _, _]) rfl
   replace hH := hH.pick [0, 1] (Hs' := [_, _]) rfl
   exact ⟨_, rfl, v_t8, v_t12, N_t8, N_t12, rfl, by simpa using hO_t8, by simpa using hO_t12, hH⟩
 ·skip
  refine o1 hA 6 475 rfl (lo_buildSlice (e := 24) (vs := []) (cs := []) (k := 32) (bb := 0) (z := undef) hH rfl rfl (fun w => by kernel_rfl)) ?_
  clear hH; rintro v_t9 w ⟨N_t9, hO_t9, hH⟩
  replace hO_t9 : OwD 24 v_t9 [] N_t9 := hO_t9
  replace hS := hH.pick [1, 2] (Hs' := [_, _]) rfl
  refine ⟨fun _ _ => hS, ?_⟩
  intro a hA
  refine a1 hA 2 479 rfl (lo_buildSlice (e := 24) (vs := []) (cs := []) (k := 32) (bb := 0) (z := undef) hH rfl rfl (fun w => by kernel_rfl)) ?_
  clear hH; rintro v_t5 w ⟨N_t5, hO_t5, hH⟩
  replace hO_t5 : OwD 24 v_t5 [] N_t5 := hO_t5
  replace hS := hH.pick [2, 3] (Hs' := [_, _]) rfl
  refine ⟨fun _ _ => hS, ?_⟩
  intro a hA
  refine a1 hA 5 511 rfl (lo_appD hH Tryd.underlying25 Tryd.underlying25 (.inl rfl) ti24 rfl rfl rfl hO_t5 (hH.rd hu) (by first | omega | (simp; done) | (simp; omega)) (by first | omega | (simp; done) | (simp; omega))) ?_
  clear hH; rintro v_t8 w ⟨N_t8, hO_t8, hH⟩
  replace hS := hH.pick [2, 3] (Hs' := [_, _]) rfl
  refine ⟨fun _ _ => hS, ?_⟩
  intro a hA
  replace hH := hH.pick [1, 0, 2, 3] (Hs' := [_, _, _, _]) rfl
  refine a1 hA 9 1023 rfl (lo_appD hH Tryd.underlying25 Tryd.underlying25 (.inl rfl) ti24 rfl rfl rfl hO_t9 (hH.rd hx) (by first | omega | (simp; done) | (simp; omega)) (by first | omega | (simp; done) | (simp; omega))) ?_
  clear hH; rintro v_t12 w ⟨N_t12, hO_t12, hH⟩
  replace hS := hH.pick [2, 3] (Hs' := [_, _]) rfl
  refine ⟨fun _ _ => hS, ?_⟩
  intro a hA
  refine p0 hA 10 2047 rfl (fun w => (q_buildC (css := [_, [v_t8], [v_t12]]) (z := [(I 0), (.slice none 0 0), (.slice none 0 0)]) (BT.mk (pl := [(0, 1), (1, 1), (2, 1)]) (it := Tryd.t27) (by kernel_rfl) Tryd.underlying27 (by kernel_rfl) (by kernel_rfl)) rfl ⟨rfl, ⟨_, rfl, by first | rfl | (simp [Value.cells]; done) | (simp [Value.cells, *]; done), by decide⟩, cells_one (Own.one hO_t8), ⟨_, rfl, by first | rfl | (simp [Value.cells]; done) | (simp [Value.cells, *]; done), by decide⟩, cells_one (Own.one hO_t12), ⟨_, rfl, by first | rfl | (simp [Value.cells]; done) | (simp [Value.cells, *]; done), by decide⟩, trivial⟩)) fun a hA => ?_
  replace hH := hH.pick [2, 0, 1, 3] (Hs' := [_, _, _, _]) rfl
  refine a0n hA 11 4095 rfl (lo_storeAm hH ti27 rfl rfl (rfl) (rfl) (ones_cons rfl (ones_cons (Own.one hO_t8) (ones_cons (Own.one hO_t12) ones_nil)))) ?_
  clear hH; rintro _ w hH
  refine a_end (by kernel_rfl) ?_ _
  refine hK2 _ _ ?_
  clear hK2
  replace hA := hA.s1 2
  refine wp_ret ?_
  refine post_ret hA (res_c rfl hA rfl (resW hH 0 rfl Tryd.underlying27 rfl ti27 (by first | assumption | (rw [List.length_map]; assumption) | rfl | exact sha_length _ | (simp; done) | (simp [*]; done) | omega))) ?_
  replace hH := hH.pick [2, 1, 0, 3] (Hs' := [_, _, _, _]) rfl
  replace hH := hH.pick [0, 1] (Hs' := [_, _]) rfl
  exact ⟨_, rfl, v_t8, v_t12, N_t8, N_t12, rfl, by simpa using hO_t8, by simpa using hO_t12, hH⟩

theorem climb_tot {w0 : World} {lv : Nat} (hg : Gl lv w0) (p : Bs) (hp : p.length = 32) (i : Int) (v : Value) (ds : List Bs) (hd : Dg ds) (hr : RdD [] w0 v ds) : Calls Tryd.prog 103 #[(.agg ((p).map B8).toArray), I i, v] w0 (Ret fun r w' => r = .tuple #[.agg ((clT p i ds).1.map B8).toArray, I (clT p i ds).2] ∧ HS [] w0 w' []) := by
  by_cases h : ds.length ≤ 10 ∧ 0 ≤ i ∧ i < ((2 ^ ds.length : Nat) : Int)
  · obtain ⟨m, rfl⟩ : ∃ m : Nat, i = m := ⟨i.toNat, by omega⟩
    rw [clT_ok h.1 (by exact_mod_cast h.2.2)]
    exact climb_any hg p m v ds hp hd hr h.1 (by exact_mod_cast h.2.2)
  · rw [clT_bad h]
    exact climb_bad p i v ds hp hd hr (by
      by_cases h1 : 10 < ds.length
      · exact .inl h1
      · by_cases h2 : i < 0
        · exact .inr (.inl h2)
        · refine .inr (.inr ?_)
          apply Classical.byContradiction
          intro h3
          exact h ⟨by omega, by omega, by push_cast; omega⟩)
theorem refclimb_tot {w0 : World} {lv : Nat} (hg : Gl (lv + 2) w0) (p : Bs) (hp : p.length = 32) (i : Int) (hi9 : i ≤ 9223372036854775807) (v : Value) (ds : List Bs) (hd : Dg ds) (hr : RdD [] w0 v ds) : Calls Tryd.prog 105 #[(.agg ((p).map B8).toArray), I i, v] w0 (Ret fun r w' => r = .tuple #[.agg ((clT p i ds).1.map B8).toArray, I (clT p i ds).2] ∧ HS [] w0 w' []) := by
  by_cases h : ds.length ≤ 10 ∧ 0 ≤ i ∧ i < ((2 ^ ds.length : Nat) : Int)
  · obtain ⟨m, rfl⟩ : ∃ m : Nat, i = m := ⟨i.toNat, by omega⟩
    rw [clT_ok h.1 (by exact_mod_cast h.2.2)]
    exact refclimb_any hg p m v ds hp hd hr h.1 (by omega) (by exact_mod_cast h.2.2)
  · rw [clT_bad h]
    by_cases h1 : 10 < ds.length ∨ i < 0
    · exact refclimb_bad p i v ds hp hd hr h1
    · obtain ⟨m, rfl⟩ : ∃ m : Nat, i = m := ⟨i.toNat, by omega⟩
      exact refclimb_over hg p m v ds hp hd hr (by omega) (by omega) (by
        apply Classical.byContradiction
        intro h3
        exact h ⟨by omega, by omega, by exact_mod_cast (Nat.lt_of_not_le h3)⟩)
theorem verify7_any {w0 : World} {lv : Nat} (hg : Gl lv w0) (pub : Bs) (hpub : pub.length = 32) (n h : Int) (u : Value) (l : Bs) (hu : By [] w0 u l) (hl : l.length ≤ 1048576) (ix : Int) (ua xa : Value) (A B : List Bs) (hdA : Dg A) (hdB : Dg B) (hua : RdD [] w0 ua A) (hxa : RdD [] w0 xa B) (hlA : A.length ≤ 1048576) (hlB : B.length ≤ 1048576) :
    Calls Tryd.prog 61 #[(.agg ((pub).map B8).toArray), I n, I h, u, (.agg #[I ix, ua, xa])] w0 (Ret fun r w' => r = .bool (decide (V7 pub n h l ix A B)) ∧ HS [] w0 w' []) := by
 have hH := HS.start w0
 refine start (n := 51) (E := [(0, _), (1, _), (2, _), (3, _), (4, _)]) Tryd.func61 rfl rfl rfl (args_look rfl) ?_
 intro a hA
 have hrl := recT_length n l A
 have hcl := clT_length hrl ix B
 refine wp_seq_k fun K1 hK1 => ?_
 refine wp_region_lit ?_
 refine sl hA (lo_boxA hH rfl) rfl ?_
 clear hH; rintro _ w ⟨b_t5, rfl, hH⟩ a hA
 refine sl hA (lo_boxA hH rfl) rfl ?_
 clear hH; rintro _ w ⟨b_t9, rfl, hH⟩ a hA
 refine asg hA fun a hA => ?_
 refine wpList_nil ?_
 refine hK1 _ _ ?_
 clear hK1
 replace hA := hA.s6 10 9 5 1 2 3
 refine wp_seq_k fun K2 hK2 => ?_
 refine wp_seq_k fun K3 hK3 => ?_
 refine wp_region_lit ?_
 refine mv hA fun a hA => ?_
 refine mv hA fun a hA => ?_
 refine sl hA (lo_call fn64 rfl (right7_any _ _)) rfl ?_
 rintro _ w ⟨rfl, hC⟩ a hA
 replace hH := HS.call0 hH hC
 clear hC
 refine hA.spl (fun hs16 hA => ?_) (fun hs16 hA => ?_)
 ·skip
  refine sq hA (q_not rfl) rfl fun a hA => ?_
  refine mv hA fun a hA => ?_
  refine gq hA rfl rfl (q_fld 2 Tryd.underlying27 rfl rfl ti25 rfl) rfl fun a hA => ?_
  refine gq hA rfl rfl (q_loadB hH 0 rfl (List.mem_singleton.2 rfl) Tryd.underlying25 rfl rfl rfl) rfl fun a hA => ?_
  refine gq hA rfl rfl (q_len Tryd.underlying25 rfl (Rd.shp hxa)) rfl fun a hA => ?_
  refine gq hA rfl rfl (q_move rfl) rfl fun a hA => ?_
  refine gq hA rfl rfl (q_neqI rfl rfl) rfl fun a hA => ?_
  refine sq hA (q_pick_f rfl rfl) rfl fun a hA => ?_
  refine wpList_nil ?_
  refine hK3 _ _ ?_
  clear hK3
  replace hA := hA.s6 24 10 9 5 1 3
  refine cond_d hA rfl (fun hc24 => ?_) (fun hc24 => ?_)
  ·skip
   refine wp_seq_k fun K4 hK4 => ?_
   refine wp_region_lit ?_
   refine asg hA fun a hA => ?_
   refine wpList_nil ?_
   refine hK4 _ _ ?_
   clear hK4
   replace hA := hA.s5 10 9 5 1 3
   refine wp_ret ?_
   refine then_ret ?_
   refine post_ret hA (res_1 rfl hA rfl) ?_
   replace hH := hH.pick [] (Hs' := []) rfl
   exact ⟨_, rfl, by congr 1; symm; first | exact decide_eq_false (fun hV => by obtain ⟨h1, h2, h3, h4, h5⟩ := hV; first | contradiction | omega) | exact decide_eq_decide.2 ⟨fun hV => hV.2.2.2.2, fun hV => ⟨by assumption, by omega, by omega, by omega, hV⟩⟩, hH⟩
  ·skip
   refine wp_skip ?_
   refine hK2 _ _ ?_
   clear hK2
   replace hA := hA.s5 10 9 5 1 3
   refine wp_seq_k fun K5 hK5 => ?_
   refine wp_region_lit ?_
   refine mv hA fun a hA => ?_
   refine mv hA fun a hA => ?_
   refine sq hA (q_fld 1 Tryd.underlying27 rfl rfl ti25 rfl) rfl fun a hA => ?_
   refine sq hA (q_loadB hH 0 rfl (List.mem_singleton.2 rfl) Tryd.underlying25 rfl rfl rfl) rfl fun a hA => ?_
   refine sl hA (lo_call fn102 rfl (recover_tot (hg.mono0 hH) _ _ _ (hH.rd hu) (by first | omega | (simp; done) | (simp; omega)) _ _ (by assumption) (hH.rd hua) (by first | omega | (simp; done) | (simp; omega)))) rfl ?_
   rintro _ w ⟨rfl, hC⟩ a hA
   replace hH := HS.call0 hH hC
   clear hC
   refine mv hA fun a hA => ?_
   refine sq hA (q_extract rfl rfl) rfl fun a hA => ?_
   refine sq hA (q_extract rfl rfl) rfl fun a hA => ?_
   refine sl hA (lo_allocA hH ti24) rfl ?_
   clear hH; rintro _ w ⟨b_t11, rfl, hH⟩ a hA
   refine s0 hA (lo_storeAm hH ti24 rfl rfl (by first | assumption | (rw [List.length_map]; assumption) | rfl | exact sha_length _ | (simp; done) | (simp [*]; done) | omega) (by first | assumption | (rw [List.length_map]; assumption) | rfl | exact sha_length _ | (simp; done) | (simp [*]; done) | omega) (one_B8 _)) ?_
   clear hH; rintro _ w hH
   refine asg hA fun a hA => ?_
   refine wpList_nil ?_
   refine hK5 _ _ ?_
   clear hK5
   replace hA := hA.s5 12 11 10 9 5
   refine wp_seq_k fun K6 hK6 => ?_
   refine wp_seq_k fun K7 hK7 => ?_
   refine wp_region_lit ?_
   refine mv hA fun a hA => ?_
   refine sq hA (q_neqI (n := 0) rfl rfl) rfl fun a hA => ?_
   refine wpList_nil ?_
   refine hK7 _ _ ?_
   clear hK7
   replace hA := hA.s6 34 12 11 10 9 5
   refine cond_d hA rfl (fun hc34 => ?_) (fun hc34 => ?_)
   ·skip
    refine wp_seq_k fun K8 hK8 => ?_
    refine wp_region_lit ?_
    refine asg hA fun a hA => ?_
    refine wpList_nil ?_
    refine hK8 _ _ ?_
    clear hK8
    replace hA := hA.s5 10 12 11 9 5
    refine wp_ret ?_
    refine then_ret ?_
    refine post_ret hA (res_1 rfl hA rfl) ?_
    replace hH := hH.pick [] (Hs' := []) rfl
    exact ⟨_, rfl, by congr 1; symm; first | exact decide_eq_false (fun hV => by obtain ⟨h1, h2, h3, h4, h5⟩ := hV; first | contradiction | omega) | exact decide_eq_decide.2 ⟨fun hV => hV.2.2.2.2, fun hV => ⟨by assumption, by omega, by omega, by omega, hV⟩⟩, hH⟩
   ·skip
    refine wp_skip ?_
    refine hK6 _ _ ?_
    clear hK6
    replace hA := hA.s5 12 11 10 9 5
    refine wp_seq_k fun K9 hK9 => ?_
    refine wp_region_lit ?_
    refine sq hA (q_loadW hH 0 rfl Tryd.underlying24 rfl ti24 rfl (by first | omega | (simp; done) | (simp; omega) | (rw [List.length_map]; assumption) | assumption | rfl | (simp [*]; done) | (simp [*]; omega))) rfl fun a hA => ?_
    refine sq hA (q_fld 0 Tryd.underlying27 rfl rfl ti3 rfl) rfl fun a hA => ?_
    refine sq hA (q_loadB hH 1 rfl (List.mem_singleton.2 rfl) Tryd.underlying3 rfl rfl rfl) rfl fun a hA => ?_
    refine sq hA (q_fld 2 Tryd.underlying27 rfl rfl ti25 rfl) rfl fun a hA => ?_
    refine sq hA (q_loadB hH 1 rfl (List.mem_singleton.2 rfl) Tryd.underlying25 rfl rfl rfl) rfl fun a hA => ?_
    refine sl hA (lo_call fn103 rfl (climb_tot (hg.mono0 hH) _ (by first | assumption | (rw [List.length_map]; assumption) | rfl | exact sha_length _ | (simp; done) | (simp [*]; done) | omega) _ _ _ (by assumption) (hH.rd hxa))) rfl ?_
    rintro _ w ⟨rfl, hC⟩ a hA
    replace hH := HS.call0 hH hC
    clear hC
    refine mv hA fun a hA => ?_
    refine sq hA (q_extract rfl rfl) rfl fun a hA => ?_
    refine sq hA (q_extract rfl rfl) rfl fun a hA => ?_
    refine sl hA (lo_allocA hH ti24) rfl ?_
    clear hH; rintro _ w ⟨b_t13, rfl, hH⟩ a hA
    refine s0 hA (lo_storeAm hH ti24 rfl rfl (by first | assumption | (rw [List.length_map]; assumption) | rfl | exact sha_length _ | (simp; done) | (simp [*]; done) | omega) (by first | assumption | (rw [List.length_map]; assumption) | rfl | exact sha_length _ | (simp; done) | (simp [*]; done) | omega) (one_B8 _)) ?_
    clear hH; rintro _ w hH
    refine asg hA fun a hA => ?_
    refine wpList_nil ?_
    refine hK9 _ _ ?_
    clear hK9
    replace hA := hA.s4 12 13 10 5
    refine wp_seq_k fun K10 hK10 => ?_
    refine wp_region_lit ?_
    refine mv hA fun a hA => ?_
    refine sq hA (q_eqlI (n := 0) rfl rfl) rfl fun a hA => ?_
    refine hA.spl (fun hs45 hA => ?_) (fun hs45 hA => ?_)
    ·skip
     refine mv hA fun a hA => ?_
     refine gq hA rfl rfl (q_loadW hH 0 rfl Tryd.underlying24 rfl ti24 rfl (by first | omega | (simp; done) | (simp; omega) | (rw [List.length_map]; assumption) | assumption | rfl | (simp [*]; done) | (simp [*]; omega))) rfl fun a hA => ?_
     refine gq hA rfl rfl (q_loadW hH 3 rfl Tryd.underlying24 rfl ti24 rfl (by first | omega | (simp; done) | (simp; omega) | (rw [List.length_map]; assumption) | assumption | rfl | (simp [*]; done) | (simp [*]; omega))) rfl fun a hA => ?_
     refine gq hA rfl rfl (q_eqlA8 eqa24 rfl rfl rfl rfl (by first | assumption | (rw [List.length_map]; assumption) | rfl | exact sha_length _ | (simp; done) | (simp [*]; done) | omega) (by first | assumption | (rw [List.length_map]; assumption) | rfl | exact sha_length _ | (simp; done) | (simp [*]; done) | omega)) rfl fun a hA => ?_
     refine sq hA (q_pick_t rfl rfl) rfl fun a hA => ?_
     refine asg hA fun a hA => ?_
     refine wpList_nil ?_
     refine hK10 _ _ ?_
     clear hK10
     replace hA := hA.s1 10
     refine wp_ret ?_
     refine post_ret hA (res_1 rfl hA rfl) ?_
     replace hH := hH.pick [] (Hs' := []) rfl
     exact ⟨_, rfl, by congr 1; symm; first | exact decide_eq_false (fun hV => by obtain ⟨h1, h2, h3, h4, h5⟩ := hV; first | contradiction | omega) | exact decide_eq_decide.2 ⟨fun hV => hV.2.2.2.2, fun hV => ⟨by assumption, by omega, by omega, by omega, hV⟩⟩, hH⟩
    ·skip
     refine mv hA fun a hA => ?_
     refine gs hA rfl rfl rfl rfl fun a hA => ?_
     refine gs hA rfl rfl rfl rfl fun a hA => ?_
     refine gs hA rfl rfl rfl rfl fun a hA => ?_
     refine sq hA (q_pick_f rfl rfl) rfl fun a hA => ?_
     refine asg hA fun a hA => ?_
     refine wpList_nil ?_
     refine hK10 _ _ ?_
     clear hK10
     replace hA := hA.s1 10
     refine wp_ret ?_
     refine post_ret hA (res_1 rfl hA rfl) ?_
     replace hH := hH.pick [] (Hs' := []) rfl
     exact ⟨_, rfl, by congr 1; symm; first | exact decide_eq_false (fun hV => by obtain ⟨h1, h2, h3, h4, h5⟩ := hV; first | contradiction | omega) | exact decide_eq_decide.2 ⟨fun hV => hV.2.2.2.2, fun hV => ⟨by assumption, by omega, by omega, by omega, hV⟩⟩, hH⟩
 ·skip
  refine sq hA (q_not rfl) rfl fun a hA => ?_
  refine mv hA fun a hA => ?_
  refine gs hA rfl rfl rfl rfl fun a hA => ?_
  refine gs hA rfl rfl rfl rfl fun a hA => ?_
  refine gs hA rfl rfl rfl rfl fun a hA => ?_
  refine gs hA rfl rfl rfl rfl fun a hA => ?_
  refine gs hA rfl rfl rfl rfl fun a hA => ?_
  refine sq hA (q_pick_t rfl rfl) rfl fun a hA => ?_
  refine wpList_nil ?_
  refine hK3 _ _ ?_
  clear hK3
  replace hA := hA.s6 24 10 9 5 1 3
  refine cond_t hA rfl ?_
  refine wp_seq_k fun K11 hK11 => ?_
  refine wp_region_lit ?_
  refine asg hA fun a hA => ?_
  refine wpList_nil ?_
  refine hK11 _ _ ?_
  clear hK11
  replace hA := hA.s5 10 9 5 1 3
  refine wp_ret ?_
  refine then_ret ?_
  refine post_ret hA (res_1 rfl hA rfl) ?_
  replace hH := hH.pick [] (Hs' := []) rfl
  exact ⟨_, rfl, by congr 1; symm; first | exact decide_eq_false (fun hV => by obtain ⟨h1, h2, h3, h4, h5⟩ := hV; first | contradiction | omega) | exact decide_eq_decide.2 ⟨fun hV => hV.2.2.2.2, fun hV => ⟨by assumption, by omega, by omega, by omega, hV⟩⟩, hH⟩

theorem refverify7_any {w0 : World} {lv : Nat} (hg : Gl (lv + 2) w0) (pub : Bs) (hpub : pub.length = 32) (n h : Int) (u : Value) (l : Bs) (hu : By [] w0 u l) (hl : l.length ≤ 1048576) (ix : Int) (ua xa : Value) (A B : List Bs) (hdA : Dg A) (hdB : Dg B) (hua : RdD [] w0 ua A) (hxa : RdD [] w0 xa B) (hlA : A.length ≤ 1048576) (hlB : B.length ≤ 1048576) (hi9 : ix ≤ 9223372036854775807) :
    Calls Tryd.prog 62 #[(.agg ((pub).map B8).toArray), I n, I h, u, (.agg #[I ix, ua, xa])] w0 (Ret fun r w' => r = .bool (decide (V7 pub n h l ix A B)) ∧ HS [] w0 w' []) := by
 have hH := HS.start w0
 refine start (n := 54) (E := [(0, _), (1, _), (2, _), (3, _), (4, _)]) Tryd.func62 rfl rfl rfl (args_look rfl) ?_
 intro a hA
 have hrl := recT_length n l A
 have hcl := clT_length hrl ix B
 refine wp_seq_k fun K1 hK1 => ?_
 refine wp_region_lit ?_
 refine sl hA (lo_boxA hH rfl) rfl ?_
 clear hH; rintro _ w ⟨b_t5, rfl, hH⟩ a hA
 refine sl hA (lo_boxA hH rfl) rfl ?_
 clear hH; rintro _ w ⟨b_t9, rfl, hH⟩ a hA
 refine asg hA fun a hA => ?_
 refine wpList_nil ?_
 refine hK1 _ _ ?_
 clear hK1
 replace hA := hA.s6 10 9 5 1 2 3
 refine wp_seq_k fun K2 hK2 => ?_
 refine wp_seq_k fun K3 hK3 => ?_
 refine wp_region_lit ?_
 refine mv hA fun a hA => ?_
 refine mv hA fun a hA => ?_
 refine sl hA (lo_call fn26 rfl (refright7_any _ _)) rfl ?_
 rintro _ w ⟨rfl, hC⟩ a hA
 replace hH := HS.call0 hH hC
 clear hC
 refine hA.spl (fun hs17 hA => ?_) (fun hs17 hA => ?_)
 ·skip
  refine sq hA (q_not rfl) rfl fun a hA => ?_
  refine mv hA fun a hA => ?_
  refine gq hA rfl rfl (q_fld 2 Tryd.underlying27 rfl rfl ti25 rfl) rfl fun a hA => ?_
  refine gq hA rfl rfl (q_loadB hH 0 rfl (List.mem_singleton.2 rfl) Tryd.underlying25 rfl rfl rfl) rfl fun a hA => ?_
  refine gq hA rfl rfl (q_len Tryd.underlying25 rfl (Rd.shp hxa)) rfl fun a hA => ?_
  refine gq hA rfl rfl (q_move rfl) rfl fun a hA => ?_
  refine gq hA rfl rfl (q_neqI rfl rfl) rfl fun a hA => ?_
  refine sq hA (q_pick_f rfl rfl) rfl fun a hA => ?_
  refine wpList_nil ?_
  refine hK3 _ _ ?_
  clear hK3
  replace hA := hA.s6 25 10 9 5 1 3
  refine cond_d hA rfl (fun hc25 => ?_) (fun hc25 => ?_)
  ·skip
   refine wp_seq_k fun K4 hK4 => ?_
   refine wp_region_lit ?_
   refine asg hA fun a hA => ?_
   refine wpList_nil ?_
   refine hK4 _ _ ?_
   clear hK4
   replace hA := hA.s5 10 9 5 1 3
   refine wp_ret ?_
   refine then_ret ?_
   refine post_ret hA (res_1 rfl hA rfl) ?_
   replace hH := hH.pick [] (Hs' := []) rfl
   exact ⟨_, rfl, by congr 1; symm; first | exact decide_eq_false (fun hV => by obtain ⟨h1, h2, h3, h4, h5⟩ := hV; first | contradiction | omega) | exact decide_eq_decide.2 ⟨fun hV => hV.2.2.2.2, fun hV => ⟨by assumption, by omega, by omega, by omega, hV⟩⟩, hH⟩
  ·skip
   refine wp_skip ?_
   refine hK2 _ _ ?_
   clear hK2
   replace hA := hA.s5 10 9 5 1 3
   refine wp_seq_k fun K5 hK5 => ?_
   refine wp_region_lit ?_
   refine mv hA fun a hA => ?_
   refine mv hA fun a hA => ?_
   refine sq hA (q_fld 1 Tryd.underlying27 rfl rfl ti25 rfl) rfl fun a hA => ?_
   refine sq hA (q_loadB hH 0 rfl (List.mem_singleton.2 rfl) Tryd.underlying25 rfl rfl rfl) rfl fun a hA => ?_
   refine sl hA (lo_call fn104 rfl (refrecover_tot (hg.mono0 hH) _ _ _ (hH.rd hu) (by first | omega | (simp; done) | (simp; omega)) _ _ (by assumption) (hH.rd hua) (by first | omega | (simp; done) | (simp; omega)))) rfl ?_
   rintro _ w ⟨rfl, hC⟩ a hA
   replace hH := HS.call0 hH hC
   clear hC
   refine mv hA fun a hA => ?_
   refine sq hA (q_extract rfl rfl) rfl fun a hA => ?_
   refine sq hA (q_extract rfl rfl) rfl fun a hA => ?_
   refine sl hA (lo_allocA hH ti24) rfl ?_
   clear hH; rintro _ w ⟨b_t11, rfl, hH⟩ a hA
   refine s0 hA (lo_storeAm hH ti24 rfl rfl (by first | assumption | (rw [List.length_map]; assumption) | rfl | exact sha_length _ | (simp; done) | (simp [*]; done) | omega) (by first | assumption | (rw [List.length_map]; assumption) | rfl | exact sha_length _ | (simp; done) | (simp [*]; done) | omega) (one_B8 _)) ?_
   clear hH; rintro _ w hH
   refine asg hA fun a hA => ?_
   refine wpList_nil ?_
   refine hK5 _ _ ?_
   clear hK5
   replace hA := hA.s5 12 11 10 9 5
   refine wp_seq_k fun K6 hK6 => ?_
   refine wp_region_lit ?_
   refine sq hA (q_loadW hH 0 rfl Tryd.underlying24 rfl ti24 rfl (by first | omega | (simp; done) | (simp; omega) | (rw [List.length_map]; assumption) | assumption | rfl | (simp [*]; done) | (simp [*]; omega))) rfl fun a hA => ?_
   refine sq hA (q_fld 0 Tryd.underlying27 rfl rfl ti3 rfl) rfl fun a hA => ?_
   refine sq hA (q_loadB hH 1 rfl (List.mem_singleton.2 rfl) Tryd.underlying3 rfl rfl rfl) rfl fun a hA => ?_
   refine sq hA (q_fld 2 Tryd.underlying27 rfl rfl ti25 rfl) rfl fun a hA => ?_
   refine sq hA (q_loadB hH 1 rfl (List.mem_singleton.2 rfl) Tryd.underlying25 rfl rfl rfl) rfl fun a hA => ?_
   refine sl hA (lo_call fn105 rfl (refclimb_tot (hg.mono0 hH) _ (by first | assumption | (rw [List.length_map]; assumption) | rfl | exact sha_length _ | (simp; done) | (simp [*]; done) | omega) _ (by assumption) _ _ (by assumption) (hH.rd hxa))) rfl ?_
   rintro _ w ⟨rfl, hC⟩ a hA
   replace hH := HS.call0 hH hC
   clear hC
   refine mv hA fun a hA => ?_
   refine sq hA (q_extract rfl rfl) rfl fun a hA => ?_
   refine sq hA (q_extract rfl rfl) rfl fun a hA => ?_
   refine sl hA (lo_allocA hH ti24) rfl ?_
   clear hH; rintro _ w ⟨b_t13, rfl, hH⟩ a hA
   refine s0 hA (lo_storeAm hH ti24 rfl rfl (by first | assumption | (rw [List.length_map]; assumption) | rfl | exact sha_length _ | (simp; done) | (simp [*]; done) | omega) (by first | assumption | (rw [List.length_map]; assumption) | rfl | exact sha_length _ | (simp; done) | (simp [*]; done) | omega) (one_B8 _)) ?_
   clear hH; rintro _ w hH
   refine asg hA fun a hA => ?_
   refine wpList_nil ?_
   refine hK6 _ _ ?_
   clear hK6
   replace hA := hA.s5 14 13 12 10 5
   refine wp_seq_k fun K7 hK7 => ?_
   refine wp_region_lit ?_
   refine mv hA fun a hA => ?_
   refine sq hA (q_eqlI (n := 0) rfl rfl) rfl fun a hA => ?_
   refine hA.spl (fun hs44 hA => ?_) (fun hs44 hA => ?_)
   ·skip
    refine mv hA fun a hA => ?_
    refine gq hA rfl rfl (q_move rfl) rfl fun a hA => ?_
    refine gq hA rfl rfl (q_eqlI (n := 0) rfl rfl) rfl fun a hA => ?_
    refine sq hA (q_pick_t rfl rfl) rfl fun a hA => ?_
    refine hA.spl (fun hs48 hA => ?_) (fun hs48 hA => ?_)
    ·skip
     refine mv hA fun a hA => ?_
     refine gq hA rfl rfl (q_loadW hH 0 rfl Tryd.underlying24 rfl ti24 rfl (by first | omega | (simp; done) | (simp; omega) | (rw [List.length_map]; assumption) | assumption | rfl | (simp [*]; done) | (simp [*]; omega))) rfl fun a hA => ?_
     refine gq hA rfl rfl (q_loadW hH 3 rfl Tryd.underlying24 rfl ti24 rfl (by first | omega | (simp; done) | (simp; omega) | (rw [List.length_map]; assumption) | assumption | rfl | (simp [*]; done) | (simp [*]; omega))) rfl fun a hA => ?_
     refine gq hA rfl rfl (q_eqlA8 eqa24 rfl rfl rfl rfl (by first | assumption | (rw [List.length_map]; assumption) | rfl | exact sha_length _ | (simp; done) | (simp [*]; done) | omega) (by first | assumption | (rw [List.length_map]; assumption) | rfl | exact sha_length _ | (simp; done) | (simp [*]; done) | omega)) rfl fun a hA => ?_
     refine sq hA (q_pick_t rfl rfl) rfl fun a hA => ?_
     refine asg hA fun a hA => ?_
     refine wpList_nil ?_
     refine hK7 _ _ ?_
     clear hK7
     replace hA := hA.s1 10
     refine wp_ret ?_
     refine post_ret hA (res_1 rfl hA rfl) ?_
     replace hH := hH.pick [] (Hs' := []) rfl
     exact ⟨_, rfl, by congr 1; symm; first | exact decide_eq_false (fun hV => by obtain ⟨h1, h2, h3, h4, h5⟩ := hV; first | contradiction | omega) | exact decide_eq_decide.2 ⟨fun hV => hV.2.2.2.2, fun hV => ⟨by assumption, by omega, by omega, by omega, hV⟩⟩, hH⟩
    ·skip
     refine mv hA fun a hA => ?_
     refine gs hA rfl rfl rfl rfl fun a hA => ?_
     refine gs hA rfl rfl rfl rfl fun a hA => ?_
     refine gs hA rfl rfl rfl rfl fun a hA => ?_
     refine sq hA (q_pick_f rfl rfl) rfl fun a hA => ?_
     refine asg hA fun a hA => ?_
     refine wpList_nil ?_
     refine hK7 _ _ ?_
     clear hK7
     replace hA := hA.s1 10
     refine wp_ret ?_
     refine post_ret hA (res_1 rfl hA rfl) ?_
     replace hH := hH.pick [] (Hs' := []) rfl
     exact ⟨_, rfl, by congr 1; symm; first | exact decide_eq_false (fun hV => by obtain ⟨h1, h2, h3, h4, h5⟩ := hV; first | contradiction | omega) | exact decide_eq_decide.2 ⟨fun hV => hV.2.2.2.2, fun hV => ⟨by assumption, by omega, by omega, by omega, hV⟩⟩, hH⟩
   ·skip
    refine mv hA fun a hA => ?_
    refine gs hA rfl rfl rfl rfl fun a hA => ?_
    refine gs hA rfl rfl rfl rfl fun a hA => ?_
    refine sq hA (q_pick_f rfl rfl) rfl fun a hA => ?_
    refine mv hA fun a hA => ?_
    refine gs hA rfl rfl rfl rfl fun a hA => ?_
    refine gs hA rfl rfl rfl rfl fun a hA => ?_
    refine gs hA rfl rfl rfl rfl fun a hA => ?_
    refine sq hA (q_pick_f rfl rfl) rfl fun a hA => ?_
    refine asg hA fun a hA => ?_
    refine wpList_nil ?_
    refine hK7 _ _ ?_
    clear hK7
    replace hA := hA.s1 10
    refine wp_ret ?_
    refine post_ret hA (res_1 rfl hA rfl) ?_
    replace hH := hH.pick [] (Hs' := []) rfl
    exact ⟨_, rfl, by congr 1; symm; first | exact decide_eq_false (fun hV => by obtain ⟨h1, h2, h3, h4, h5⟩ := hV; first | contradiction | omega) | exact decide_eq_decide.2 ⟨fun hV => hV.2.2.2.2, fun hV => ⟨by assumption, by omega, by omega, by omega, hV⟩⟩, hH⟩
 ·skip
  refine sq hA (q_not rfl) rfl fun a hA => ?_
  refine mv hA fun a hA => ?_
  refine gs hA rfl rfl rfl rfl fun a hA => ?_
  refine gs hA rfl rfl rfl rfl fun a hA => ?_
  refine gs hA rfl rfl rfl rfl fun a hA => ?_
  refine gs hA rfl rfl rfl rfl fun a hA => ?_
  refine gs hA rfl rfl rfl rfl fun a hA => ?_
  refine sq hA (q_pick_t rfl rfl) rfl fun a hA => ?_
  refine wpList_nil ?_
  refine hK3 _ _ ?_
  clear hK3
  replace hA := hA.s6 25 10 9 5 1 3
  refine cond_t hA rfl ?_
  refine wp_seq_k fun K8 hK8 => ?_
  refine wp_region_lit ?_
  refine asg hA fun a hA => ?_
  refine wpList_nil ?_
  refine hK8 _ _ ?_
  clear hK8
  replace hA := hA.s5 10 9 5 1 3
  refine wp_ret ?_
  refine then_ret ?_
  refine post_ret hA (res_1 rfl hA rfl) ?_
  replace hH := hH.pick [] (Hs' := []) rfl
  exact ⟨_, rfl, by congr 1; symm; first | exact decide_eq_false (fun hV => by obtain ⟨h1, h2, h3, h4, h5⟩ := hV; first | contradiction | omega) | exact decide_eq_decide.2 ⟨fun hV => hV.2.2.2.2, fun hV => ⟨by assumption, by omega, by omega, by omega, hV⟩⟩, hH⟩

end Go.Proofs.YtnnkgdijaekcfaaDoor
