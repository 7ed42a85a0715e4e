/- Layer 12 (vault): the document's vault. -/
import Derived.Test.YthhdilafnfcpbaaDoorJl
namespace Go.Proofs.YthhdilafnfcpbaaDoor
open Go
set_option linter.unusedVariables false
set_option linter.unusedSimpArgs false
set_option maxRecDepth 100000

theorem refpart_any {w0 : World} (v : Value) (l : Bs) (hr : By [] w0 v l) (hl : l.length ≤ 1000000) :
    Calls Tryd.prog 41 #[v] w0 (Ret fun r w' => ∃ v' N, r = .tuple #[I (unp l).1, v', .bool (unp l).2.2] ∧ Ow B8 5 v' (unp l).2.1 N ∧ HS [] w0 w' [N]) := by
 have hH := HS.start w0
 refine start (n := 21) (E := [(0, _)]) Tryd.func41 rfl rfl rfl (args_look rfl) ?_
 intro a hA
 refine wp_seq_k fun K1 hK1 => ?_
 refine wp_region_lit ?_
 refine asg hA fun a hA => ?_
 refine asg hA fun a hA => ?_
 refine asg hA fun a hA => ?_
 refine wpList_nil ?_
 refine hK1 _ _ ?_
 clear hK1
 refine wp_seq_k fun K2 hK2 => ?_
 refine wp_region_lit ?_
 refine mv hA fun a hA => ?_
 refine sq hA (q_buildC (css := [[v]]) (z := [(.slice none 0 0), (I 0)]) (BT.mk (pl := [(0, 1), (1, 1)]) (it := Tryd.t102) (by kernel_rfl) Tryd.underlying102 (by kernel_rfl) (by kernel_rfl)) rfl ⟨cells_one (Rd.one hr), ⟨_, rfl, by first | rfl | (simp [Value.cells]; done) | (simp [Value.cells, *]; done), by decide⟩, trivial⟩) rfl fun a hA => ?_
 refine sl hA (lo_boxA hH rfl) rfl ?_
 clear hH; rintro _ w ⟨b_t10, rfl, hH⟩ a hA
 refine asg hA fun a hA => ?_
 refine wpList_nil ?_
 refine hK2 _ _ ?_
 clear hK2
 replace hA := hA.s4 5 4 3 2
 refine wp_seq_k fun K3 hK3 => ?_
 refine wp_region_lit ?_
 refine mv hA fun a hA => ?_
 refine sl hA (lo_call fn65 rfl (refrnum_any b_t10 _ _ 0 (HS.rdM (Ns1 := [_]) hH hr) (by omega) 1099511627776#64 1099511627776 tM' (HS.handed (Ns1 := [_]) hH))) rfl ?_
 rintro _ w ⟨w_t12, rfl, hT_t12, hC⟩ a hA
 replace hH := HS.call (Ns1 := [_]) hH hC
 clear hC
 have hle := rNum_le 1099511627776 (l, 0)
 have hxl := rNum_len 1099511627776 (l, 0)
 simp only at hxl
 refine asg hA fun a hA => ?_
 refine wpList_nil ?_
 refine hK3 _ _ ?_
 clear hK3
 replace hA := hA.s5 6 5 4 3 2
 refine wp_seq_k fun K4 hK4 => ?_
 refine wp_region_lit ?_
 refine mv hA fun a hA => ?_
 refine sl hA (lo_call fn62 rfl (refrtext_any b_t10 _ _ _ (HS.rdM (Ns1 := [_]) hH (hT_t12 _ _ hr)) (by omega) 262144 (by decide) (HS.handed (Ns1 := [_]) hH))) rfl ?_
 rintro _ w ⟨w_t14, v_t14, N_t14, rfl, hO_t14, hT_t14, hC⟩ a hA
 replace hH := HS.call (Ns1 := [_]) hH hC
 clear hC
 have hxl2 := (rText_len 262144 (rNum 1099511627776 (l, 0)).2).1
 refine asg hA fun a hA => ?_
 refine wpList_nil ?_
 refine hK4 _ _ ?_
 clear hK4
 replace hA := hA.s6 7 6 5 4 3 2
 refine wp_seq_k fun K5 hK5 => ?_
 refine wp_region_lit ?_
 refine mv hA fun a hA => ?_
 refine sq hA (q_cv64_I Tryd.underlying91 Tryd.underlying3 rfl (by exact Nat.le_trans hle (by decide))) rfl fun a hA => ?_
 refine mv hA fun a hA => ?_
 refine mv hA fun a hA => ?_
 refine sl hA (lo_call fn66 rfl (refrend_any b_t10 _ _ _ (HS.rdM (Ns1 := [_]) hH (hT_t14 _ _ (hT_t12 _ _ hr))) (Nat.le_trans hxl2 (by omega)) (HS.handed (Ns1 := [_]) hH))) rfl ?_
 rintro _ w ⟨rfl, hC⟩ a hA
 replace hH := HS.call (Ns1 := [_]) hH hC
 clear hC
 refine sq hA (q_eqlI (n := 0) rfl rfl) rfl fun a hA => ?_
 refine asg hA fun a hA => ?_
 refine asg hA fun a hA => ?_
 refine asg hA fun a hA => ?_
 refine wpList_nil ?_
 refine hK5 _ _ ?_
 clear hK5
 replace hA := hA.s3 4 3 2
 refine wp_ret ?_
 refine post_ret hA (res_3 rfl hA rfl rfl rfl) ?_
 replace hH := hH.pick [1, 0] (Hs' := [_, _]) rfl
 replace hH := hH.pick [0] (Hs' := [_]) rfl
 refine ⟨_, rfl, v_t14, N_t14, ?_, hO_t14, hH⟩
 unfold unp
 rw [show decide ((((rEnd (rText 262144 (rNum 1099511627776 (l, 0)).2).2).1 : Nat) : Int) = 0) = decide ((rEnd (rText 262144 (rNum 1099511627776 (l, 0)).2).2).1 = 0) from decide_eq_decide.2 (by omega)]

theorem refslot_any {w0 : World} {lv : Nat} (hg : Gl (lv + 2) w0) (v : Value) (l : Bs) (hr : By [] w0 v l) (hl : l.length ≤ 1000000) (o : Nat) (ho : o < 2) :
    Calls Tryd.prog 38 #[v, I o] w0 (Ret fun r w' => ∃ v' N, r = .tuple #[I (slotP o l).1, v'] ∧ Ow B8 5 v' (slotP o l).2 N ∧ HS [] w0 w' [N]) := by
 have hH := HS.start w0
 refine start (n := 40) (E := [(0, _), (1, _)]) Tryd.func38 rfl rfl rfl (args_look rfl) ?_
 intro a hA
 refine wp_seq_k fun K1 hK1 => ?_
 refine wp_region_lit ?_
 refine asg hA fun a hA => ?_
 refine asg hA fun a hA => ?_
 refine wpList_nil ?_
 refine hK1 _ _ ?_
 clear hK1
 refine wp_seq_k fun K2 hK2 => ?_
 refine wp_region_lit ?_
 refine mv hA fun a hA => ?_
 refine sl hA (lo_call fn40 rfl (first_any (hg.mono0 hH) _ (l) (hH.rd hr) (by first | omega | (rw [List.length_drop]; omega)))) rfl ?_
 rintro _ w ⟨v_t14, N_t14, m_t14, rfl, hF_t14, hC⟩ a hA
 replace hH := HS.call0 hH hC
 clear hC
 refine mv hA fun a hA => ?_
 refine sq hA (q_extract rfl rfl) rfl fun a hA => ?_
 refine sq hA (q_extract rfl rfl) rfl fun a hA => ?_
 refine sq hA (q_extract rfl rfl) rfl fun a hA => ?_
 rcases hf : frV l with _ | ⟨x, n⟩
 ·skip
  rw [hf] at hA
  have hsl : slotP o l = (0, []) := slotP_none hf
  refine asg hA fun a hA => ?_
  refine asg hA fun a hA => ?_
  refine asg hA fun a hA => ?_
  refine wpList_nil ?_
  refine hK2 _ _ ?_
  clear hK2
  replace hA := hA.s5 8 6 5 4 1
  refine wp_seq_k fun K3 hK3 => ?_
  refine wp_seq_k fun K4 hK4 => ?_
  refine wp_region_lit ?_
  refine mv hA fun a hA => ?_
  refine sq hA (q_not rfl) rfl fun a hA => ?_
  refine wpList_nil ?_
  refine hK4 _ _ ?_
  clear hK4
  replace hA := hA.s5 19 6 5 4 1
  refine cond_t hA rfl ?_
  refine wp_seq_k fun K5 hK5 => ?_
  refine wp_region_lit ?_
  refine asg hA fun a hA => ?_
  refine asg hA fun a hA => ?_
  refine wpList_nil ?_
  refine hK5 _ _ ?_
  clear hK5
  replace hA := hA.s4 5 4 6 1
  refine wp_ret ?_
  refine then_ret ?_
  refine post_ret hA (res_2 rfl hA rfl rfl) ?_
  replace hH := hH.pick [] (Hs' := []) rfl
  rw [show slotP o l = (0, []) by first | exact hsl | (rw [hsl, if_neg (by intro hh; obtain ⟨h1, h2, h3⟩ := hh; first | omega | (rw [recOk, hb] at h1; cases h1))])]; exact ⟨_, rfl, nilV, [], rfl, Ow.nil B8 _, hH.nilFront⟩
 ·skip
  rw [hf] at hA
  obtain ⟨hO_t14, rfl⟩ := hF_t14 x n hf
  have hx := (frV_det hf).2.2.1
  have hsl := slotP_fr (i := o) hf
  have hu40 := unp_le x
  refine asg hA fun a hA => ?_
  refine asg hA fun a hA => ?_
  refine asg hA fun a hA => ?_
  refine wpList_nil ?_
  refine hK2 _ _ ?_
  clear hK2
  replace hA := hA.s5 8 6 5 4 1
  refine wp_seq_k fun K6 hK6 => ?_
  refine wp_seq_k fun K7 hK7 => ?_
  refine wp_region_lit ?_
  refine mv hA fun a hA => ?_
  refine sq hA (q_not rfl) rfl fun a hA => ?_
  refine wpList_nil ?_
  refine hK7 _ _ ?_
  clear hK7
  replace hA := hA.s5 19 6 5 4 1
  refine cond_f hA rfl ?_
  refine wp_skip ?_
  refine hK6 _ _ ?_
  clear hK6
  replace hA := hA.s4 6 5 4 1
  refine wp_seq_k fun K8 hK8 => ?_
  refine wp_region_lit ?_
  refine mv hA fun a hA => ?_
  refine sl hA (lo_call fn41 rfl (refpart_any _ _ (Own.rd0 hO_t14 hH 0 rfl) (by omega))) rfl ?_
  rintro _ w ⟨v_t22, N_t22, rfl, hO_t22, hC⟩ a hA
  replace hH := HS.call0 hH hC
  clear hC
  refine mv hA fun a hA => ?_
  refine sq hA (q_extract rfl rfl) rfl fun a hA => ?_
  refine sq hA (q_extract rfl rfl) rfl fun a hA => ?_
  refine sq hA (q_extract rfl rfl) rfl fun a hA => ?_
  rcases hb : (unp x).2.2 with _ | _
  ·skip
   rw [hb] at hA
   refine asg hA fun a hA => ?_
   refine asg hA fun a hA => ?_
   refine asg hA fun a hA => ?_
   refine wpList_nil ?_
   refine hK8 _ _ ?_
   clear hK8
   replace hA := hA.s6 11 10 9 5 4 1
   refine wp_seq_k fun K9 hK9 => ?_
   refine wp_seq_k fun K10 hK10 => ?_
   refine wp_region_lit ?_
   refine mv hA fun a hA => ?_
   refine sq hA (q_not rfl) rfl fun a hA => ?_
   refine mv hA fun a hA => ?_
   refine gs hA rfl rfl rfl rfl fun a hA => ?_
   refine gs hA rfl rfl rfl rfl fun a hA => ?_
   refine sq hA (q_pick_t rfl rfl) rfl fun a hA => ?_
   refine mv hA fun a hA => ?_
   refine gs hA rfl rfl rfl rfl fun a hA => ?_
   refine gs hA rfl rfl rfl rfl fun a hA => ?_
   refine gs hA rfl rfl rfl rfl fun a hA => ?_
   refine gs hA rfl rfl rfl rfl fun a hA => ?_
   refine sq hA (q_pick_t rfl rfl) rfl fun a hA => ?_
   refine wpList_nil ?_
   refine hK10 _ _ ?_
   clear hK10
   replace hA := hA.s5 37 10 9 5 4
   refine cond_t hA rfl ?_
   refine wp_seq_k fun K11 hK11 => ?_
   refine wp_region_lit ?_
   refine asg hA fun a hA => ?_
   refine asg hA fun a hA => ?_
   refine wpList_nil ?_
   refine hK11 _ _ ?_
   clear hK11
   replace hA := hA.s4 5 4 10 9
   refine wp_ret ?_
   refine then_ret ?_
   refine post_ret hA (res_2 rfl hA rfl rfl) ?_
   replace hH := hH.pick [] (Hs' := []) rfl
   rw [show slotP o l = (0, []) by first | exact hsl | (rw [hsl, if_neg (by intro hh; obtain ⟨h1, h2, h3⟩ := hh; first | omega | (rw [recOk, hb] at h1; cases h1))])]; exact ⟨_, rfl, nilV, [], rfl, Ow.nil B8 _, hH.nilFront⟩
  ·skip
   rw [hb] at hA
   refine asg hA fun a hA => ?_
   refine asg hA fun a hA => ?_
   refine asg hA fun a hA => ?_
   refine wpList_nil ?_
   refine hK8 _ _ ?_
   clear hK8
   replace hA := hA.s6 11 10 9 5 4 1
   refine wp_seq_k fun K12 hK12 => ?_
   refine wp_seq_k fun K13 hK13 => ?_
   refine wp_region_lit ?_
   refine mv hA fun a hA => ?_
   refine sq hA (q_not rfl) rfl fun a hA => ?_
   refine mv hA fun a hA => ?_
   refine gq hA rfl rfl (q_move rfl) rfl fun a hA => ?_
   refine gq hA rfl rfl (q_lssI (n := 1) rfl rfl) rfl fun a hA => ?_
   refine sq hA (q_pick_f rfl rfl) rfl fun a hA => ?_
   refine hA.spl (fun hs31 hA => ?_) (fun hs31 hA => ?_)
   ·skip
    refine mv hA fun a hA => ?_
    refine gs hA rfl rfl rfl rfl fun a hA => ?_
    refine gs hA rfl rfl rfl rfl fun a hA => ?_
    refine gs hA rfl rfl rfl rfl fun a hA => ?_
    refine gs hA rfl rfl rfl rfl fun a hA => ?_
    refine sq hA (q_pick_t rfl rfl) rfl fun a hA => ?_
    refine wpList_nil ?_
    refine hK13 _ _ ?_
    clear hK13
    replace hA := hA.s5 37 10 9 5 4
    refine cond_t hA rfl ?_
    refine wp_seq_k fun K14 hK14 => ?_
    refine wp_region_lit ?_
    refine asg hA fun a hA => ?_
    refine asg hA fun a hA => ?_
    refine wpList_nil ?_
    refine hK14 _ _ ?_
    clear hK14
    replace hA := hA.s4 5 4 10 9
    refine wp_ret ?_
    refine then_ret ?_
    refine post_ret hA (res_2 rfl hA rfl rfl) ?_
    replace hH := hH.pick [] (Hs' := []) rfl
    rw [show slotP o l = (0, []) by first | exact hsl | (rw [hsl, if_neg (by intro hh; obtain ⟨h1, h2, h3⟩ := hh; first | omega | (rw [recOk, hb] at h1; cases h1))])]; exact ⟨_, rfl, nilV, [], rfl, Ow.nil B8 _, hH.nilFront⟩
   ·skip
    refine mv hA fun a hA => ?_
    refine gq hA rfl rfl (q_move rfl) rfl fun a hA => ?_
    refine gq hA rfl rfl (q_remI (n := 2) rfl rfl (by omega)) rfl fun a hA => ?_
    refine gq hA rfl rfl (q_move rfl) rfl fun a hA => ?_
    refine gq hA rfl rfl (q_neqI rfl rfl) rfl fun a hA => ?_
    refine sq hA (q_pick_f rfl rfl) rfl fun a hA => ?_
    refine wpList_nil ?_
    refine hK13 _ _ ?_
    clear hK13
    replace hA := hA.s5 37 10 9 5 4
    refine cond_d hA rfl (fun hc37 => ?_) (fun hc37 => ?_)
    ·skip
     refine wp_seq_k fun K15 hK15 => ?_
     refine wp_region_lit ?_
     refine asg hA fun a hA => ?_
     refine asg hA fun a hA => ?_
     refine wpList_nil ?_
     refine hK15 _ _ ?_
     clear hK15
     replace hA := hA.s4 5 4 10 9
     refine wp_ret ?_
     refine then_ret ?_
     refine post_ret hA (res_2 rfl hA rfl rfl) ?_
     replace hH := hH.pick [] (Hs' := []) rfl
     rw [show slotP o l = (0, []) by first | exact hsl | (rw [hsl, if_neg (by intro hh; obtain ⟨h1, h2, h3⟩ := hh; first | omega | (rw [recOk, hb] at h1; cases h1))])]; exact ⟨_, rfl, nilV, [], rfl, Ow.nil B8 _, hH.nilFront⟩
    ·skip
     refine wp_skip ?_
     refine hK12 _ _ ?_
     clear hK12
     replace hA := hA.s4 10 9 5 4
     refine wp_seq_k fun K16 hK16 => ?_
     refine wp_region_lit ?_
     refine mv hA fun a hA => ?_
     refine mv hA fun a hA => ?_
     refine asg hA fun a hA => ?_
     refine asg hA fun a hA => ?_
     refine wpList_nil ?_
     refine hK16 _ _ ?_
     clear hK16
     replace hA := hA.s2 5 4
     refine wp_ret ?_
     refine post_ret hA (res_2 rfl hA rfl rfl) ?_
     replace hH := hH.pick [0] (Hs' := [_]) rfl
     rw [hsl, if_pos ⟨by rw [recOk, hb], by omega, by omega⟩]; exact ⟨_, rfl, v_t22, N_t22, rfl, hO_t22, hH⟩

theorem pick_any {w0 : World} (g h : Nat) (tv uv : Value) :
    Calls Tryd.prog 39 #[I g, tv, I h, uv] w0 (Ret fun r w' => r = .tuple #[I (if g < h then h else g : Nat), if g < h then uv else tv] ∧ HS [] w0 w' []) := by
 have hH := HS.start w0
 refine start (n := 17) (E := [(0, _), (1, _), (2, _), (3, _)]) Tryd.func39 rfl rfl rfl (args_look rfl) ?_
 intro a hA
 refine wp_seq_k fun K1 hK1 => ?_
 refine wp_region_lit ?_
 refine asg hA fun a hA => ?_
 refine asg hA fun a hA => ?_
 refine wpList_nil ?_
 refine hK1 _ _ ?_
 clear hK1
 refine wp_seq_k fun K2 hK2 => ?_
 refine wp_seq_k fun K3 hK3 => ?_
 refine wp_region_lit ?_
 refine mv hA fun a hA => ?_
 refine mv hA fun a hA => ?_
 refine sq hA (q_gtrI rfl rfl) rfl fun a hA => ?_
 refine wpList_nil ?_
 refine hK3 _ _ ?_
 clear hK3
 replace hA := hA.s7 12 9 8 0 1 2 3
 refine cond_d hA rfl (fun hc12 => ?_) (fun hc12 => ?_)
 ·skip
  refine wp_seq_k fun K4 hK4 => ?_
  refine wp_region_lit ?_
  refine mv hA fun a hA => ?_
  refine mv hA fun a hA => ?_
  refine asg hA fun a hA => ?_
  refine asg hA fun a hA => ?_
  refine wpList_nil ?_
  refine hK4 _ _ ?_
  clear hK4
  replace hA := hA.s4 9 8 0 1
  refine wp_ret ?_
  refine then_ret ?_
  refine post_ret hA (res_2 rfl hA rfl rfl) ?_
  first | exact ⟨_, rfl, by rw [if_pos (by omega), if_pos (by omega)], hH⟩ | exact ⟨_, rfl, by rw [if_neg (by omega), if_neg (by omega)], hH⟩
 ·skip
  refine wp_skip ?_
  refine hK2 _ _ ?_
  clear hK2
  replace hA := hA.s4 9 8 0 1
  refine wp_seq_k fun K5 hK5 => ?_
  refine wp_region_lit ?_
  refine mv hA fun a hA => ?_
  refine mv hA fun a hA => ?_
  refine asg hA fun a hA => ?_
  refine asg hA fun a hA => ?_
  refine wpList_nil ?_
  refine hK5 _ _ ?_
  clear hK5
  replace hA := hA.s2 9 8
  refine wp_ret ?_
  refine post_ret hA (res_2 rfl hA rfl rfl) ?_
  first | exact ⟨_, rfl, by rw [if_pos (by omega), if_pos (by omega)], hH⟩ | exact ⟨_, rfl, by rw [if_neg (by omega), if_neg (by omega)], hH⟩

end Go.Proofs.YthhdilafnfcpbaaDoor
