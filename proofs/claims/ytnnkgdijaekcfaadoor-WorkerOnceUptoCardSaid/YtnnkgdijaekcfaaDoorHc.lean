/- Layer 7 (keys): signatures compared, copied, verified. -/
import Derived.Test.YtnnkgdijaekcfaaDoorHa
import Derived.Test.YtnnkgdijaekcfaaDoorCb
import Derived.Test.YtnnkgdijaekcfaaDoorMzc
namespace Go.Proofs.YtnnkgdijaekcfaaDoor
open Go
set_option linter.unusedVariables false
set_option linter.unusedSimpArgs false
set_option maxRecDepth 100000

theorem same7_any {w0 : World} (i : Int) (u x : Value) (A B : List Bs) (hdA : Dg A) (hdB : Dg B) (hu : RdD [] w0 u A) (hx : RdD [] w0 x B) (hlA : A.length ≤ 1048576) (hlB : B.length ≤ 1048576) (j : Int) (v y : Value) (C D : List Bs) (hdC : Dg C) (hdD : Dg D) (hv : RdD [] w0 v C) (hy : RdD [] w0 y D) (hlC : C.length ≤ 1048576) (hlD : D.length ≤ 1048576) :
    Calls Tryd.prog 51 #[(.agg #[I i, u, x]), (.agg #[I j, v, y])] w0 (Ret fun r w' => r = .bool (decide (i = j ∧ A = C ∧ B = D)) ∧ HS [] w0 w' []) := by
 have hH := HS.start w0
 refine start (n := 24) (E := [(0, _), (1, _)]) Tryd.func51 rfl rfl rfl (args_look rfl) ?_
 intro a hA
 refine wp_seq_k fun K1 hK1 => ?_
 refine wp_region_lit ?_
 refine sl hA (lo_boxA hH rfl) rfl ?_
 clear hH; rintro _ w ⟨b_t2, rfl, hH⟩ a hA
 refine sl hA (lo_boxA hH rfl) rfl ?_
 clear hH; rintro _ w ⟨b_t3, rfl, hH⟩ a hA
 refine asg hA fun a hA => ?_
 refine wpList_nil ?_
 refine hK1 _ _ ?_
 clear hK1
 replace hA := hA.s3 4 3 2
 refine wp_seq_k fun K2 hK2 => ?_
 refine wp_region_lit ?_
 refine sq hA (q_fld 0 Tryd.underlying27 rfl rfl ti3 rfl) rfl fun a hA => ?_
 refine sq hA (q_loadB hH 1 rfl (List.mem_singleton.2 rfl) Tryd.underlying3 rfl rfl rfl) rfl fun a hA => ?_
 refine sq hA (q_fld 0 Tryd.underlying27 rfl rfl ti3 rfl) rfl fun a hA => ?_
 refine sq hA (q_loadB hH 0 rfl (List.mem_singleton.2 rfl) Tryd.underlying3 rfl rfl rfl) rfl fun a hA => ?_
 refine sq hA (q_eqlI rfl rfl) rfl fun a hA => ?_
 refine hA.spl (fun hs9 hA => ?_) (fun hs9 hA => ?_)
 ·skip
  refine mv hA fun a hA => ?_
  refine gq hA rfl rfl (q_fld 1 Tryd.underlying27 rfl rfl ti25 rfl) rfl fun a hA => ?_
  refine gq hA rfl rfl (q_loadB hH 1 rfl (List.mem_singleton.2 rfl) Tryd.underlying25 rfl rfl rfl) rfl fun a hA => ?_
  refine gq hA rfl rfl (q_fld 1 Tryd.underlying27 rfl rfl ti25 rfl) rfl fun a hA => ?_
  refine gq hA rfl rfl (q_loadB hH 0 rfl (List.mem_singleton.2 rfl) Tryd.underlying25 rfl rfl rfl) rfl fun a hA => ?_
  refine gl hA rfl rfl (lo_call fn99 rfl (sameD_any _ _ _ _ (by assumption) (by assumption) (hH.rd hu) (hH.rd hv) (by first | omega | (simp; done) | (simp; omega)) (by first | omega | (simp; done) | (simp; omega)))) rfl ?_
  rintro _ w ⟨rfl, hC⟩ a hA
  replace hH := HS.call0 hH hC
  clear hC
  refine sq hA (q_pick_t rfl rfl) rfl fun a hA => ?_
  refine hA.spl (fun hs16 hA => ?_) (fun hs16 hA => ?_)
  ·skip
   refine mv hA fun a hA => ?_
   refine gq hA rfl rfl (q_fld 2 Tryd.underlying27 rfl rfl ti25 rfl) rfl fun a hA => ?_
   refine gq hA rfl rfl (q_loadB hH 1 rfl (List.mem_singleton.2 rfl) Tryd.underlying25 rfl rfl rfl) rfl fun a hA => ?_
   refine gq hA rfl rfl (q_fld 2 Tryd.underlying27 rfl rfl ti25 rfl) rfl fun a hA => ?_
   refine gq hA rfl rfl (q_loadB hH 0 rfl (List.mem_singleton.2 rfl) Tryd.underlying25 rfl rfl rfl) rfl fun a hA => ?_
   refine gl hA rfl rfl (lo_call fn99 rfl (sameD_any _ _ _ _ (by assumption) (by assumption) (hH.rd hx) (hH.rd hy) (by first | omega | (simp; done) | (simp; omega)) (by first | omega | (simp; done) | (simp; omega)))) rfl ?_
   rintro _ w ⟨rfl, hC⟩ a hA
   replace hH := HS.call0 hH hC
   clear hC
   refine sq hA (q_pick_t rfl rfl) rfl fun a hA => ?_
   refine asg hA fun a hA => ?_
   refine wpList_nil ?_
   refine hK2 _ _ ?_
   clear hK2
   replace hA := hA.s1 4
   refine wp_ret ?_
   refine post_ret hA (res_1 rfl hA rfl) ?_
   replace hH := hH.pick [] (Hs' := []) rfl
   exact ⟨_, rfl, by congr 1; symm; first | exact decide_eq_false (fun hV => by obtain ⟨h1, h2, h3⟩ := hV; contradiction) | exact decide_eq_decide.2 ⟨fun hV => hV.2.2, fun hV => ⟨by assumption, by assumption, hV⟩⟩, hH⟩
  ·skip
   refine mv hA fun a hA => ?_
   refine gs hA rfl rfl rfl rfl fun a hA => ?_
   refine gs hA rfl rfl rfl rfl fun a hA => ?_
   refine gs hA rfl rfl rfl rfl fun a hA => ?_
   refine gs hA rfl rfl rfl rfl fun a hA => ?_
   refine gs hA rfl rfl rfl rfl fun a hA => ?_
   refine sq hA (q_pick_f rfl rfl) rfl fun a hA => ?_
   refine asg hA fun a hA => ?_
   refine wpList_nil ?_
   refine hK2 _ _ ?_
   clear hK2
   replace hA := hA.s1 4
   refine wp_ret ?_
   refine post_ret hA (res_1 rfl hA rfl) ?_
   replace hH := hH.pick [] (Hs' := []) rfl
   exact ⟨_, rfl, by congr 1; symm; first | exact decide_eq_false (fun hV => by obtain ⟨h1, h2, h3⟩ := hV; contradiction) | exact decide_eq_decide.2 ⟨fun hV => hV.2.2, fun hV => ⟨by assumption, by assumption, hV⟩⟩, hH⟩
 ·skip
  refine mv hA fun a hA => ?_
  refine gs hA rfl rfl rfl rfl fun a hA => ?_
  refine gs hA rfl rfl rfl rfl fun a hA => ?_
  refine gs hA rfl rfl rfl rfl fun a hA => ?_
  refine gs hA rfl rfl rfl rfl fun a hA => ?_
  refine gs hA rfl rfl rfl rfl fun a hA => ?_
  refine sq hA (q_pick_f rfl rfl) rfl fun a hA => ?_
  refine mv hA fun a hA => ?_
  refine gs hA rfl rfl rfl rfl fun a hA => ?_
  refine gs hA rfl rfl rfl rfl fun a hA => ?_
  refine gs hA rfl rfl rfl rfl fun a hA => ?_
  refine gs hA rfl rfl rfl rfl fun a hA => ?_
  refine gs hA rfl rfl rfl rfl fun a hA => ?_
  refine sq hA (q_pick_f rfl rfl) rfl fun a hA => ?_
  refine asg hA fun a hA => ?_
  refine wpList_nil ?_
  refine hK2 _ _ ?_
  clear hK2
  replace hA := hA.s1 4
  refine wp_ret ?_
  refine post_ret hA (res_1 rfl hA rfl) ?_
  replace hH := hH.pick [] (Hs' := []) rfl
  exact ⟨_, rfl, by congr 1; symm; first | exact decide_eq_false (fun hV => by obtain ⟨h1, h2, h3⟩ := hV; contradiction) | exact decide_eq_decide.2 ⟨fun hV => hV.2.2, fun hV => ⟨by assumption, by assumption, hV⟩⟩, hH⟩

end Go.Proofs.YtnnkgdijaekcfaaDoor
