/- Layer 7 (keys): the laws KeysBytes, KeysThere. -/
import Derived.Test.YtipjpbfledddaaaDoorHf
import Derived.Test.YtipjpbfledddaaaDoorHm
import Derived.Test.YtipjpbfledddaaaDoorHn
namespace Go.Proofs.YtipjpbfledddaaaDoor
open Go
set_option linter.unusedVariables false
set_option linter.unusedSimpArgs false
set_option maxRecDepth 100000

theorem dec7_g {w0 : World} (v : Value) (l : Bs) (hr : By [] w0 v l) (hl : l.length ≤ 1048576) (n h : Nat) (hn : R7 n h) {D : (Nat × List Bs × List Bs) × Nat} (hD : D = decK n h l) : Calls Tryd.prog 28 #[v, I n, I h] w0 (Ret fun r w' => ∃ u x N1 N2, r = .tuple #[.agg #[I D.1.1, u, x], I D.2] ∧ OwD 23 u D.1.2.1 N1 ∧ OwD 23 x D.1.2.2 N2 ∧ HS [] w0 w' [N1, N2]) := by
  subst hD
  exact dec7_any v l hr hl n h hn
theorem refdec7_g {w0 : World} (v : Value) (l : Bs) (hr : By [] w0 v l) (hl : l.length ≤ 1048576) (n h : Nat) (hn : R7 n h) {D : (Nat × List Bs × List Bs) × Nat} (hD : D = decK n h l) : Calls Tryd.prog 29 #[v, I n, I h] w0 (Ret fun r w' => ∃ u x N1 N2, r = .tuple #[.agg #[I D.1.1, u, x], I D.2] ∧ OwD 23 u D.1.2.1 N1 ∧ OwD 23 x D.1.2.2 N2 ∧ HS [] w0 w' [N1, N2]) := by
  subst hD
  exact refdec7_any v l hr hl n h hn
set_option maxHeartbeats 2000000 in
theorem keysBytes_any {w0 : World} {lv : Nat} (hg : Gl lv w0) (ix : Int) (ua xa : Value) (A B : List Bs) (hdA : Dg A) (hdB : Dg B) (hua : RdD [] w0 ua A) (hxa : RdD [] w0 xa B) (hlA : A.length ≤ 1048576) (hlB : B.length ≤ 1048576) (hi9 : ix ≤ 9223372036854775807) (v : Value) (l : Bs) (hr : By [] w0 v l) (hl : l.length ≤ 1048576) (n h : Int) :
    Calls Tryd.prog 9 #[(.agg #[I ix, ua, xa]), v, I n, I h] w0 (Ret fun r w' => r = .bool true ∧ HS [] w0 w' []) := by
  have hH := HS.start w0
  refine start (n := 78) (E := [(0, _), (1, _), (2, _), (3, _)]) Tryd.func9 rfl rfl rfl (args_look rfl) ?_
  intro a hA
  have hEl := encK_len hi9 hdA hdB
  have hNl := encK_len (i := 0) (by decide) Dg.nil Dg.nil
  refine wp_seq_k fun K1 hK1 => ?_
  refine wp_region_lit ?_
  refine sl hA (lo_boxA hH rfl) rfl ?_
  clear hH; rintro _ w ⟨b_t4, rfl, hH⟩ a hA
  refine sq hA (q_assign rfl) rfl fun a hA => ?_
  refine wpList_nil ?_
  refine hK1 _ _ ?_
  clear hK1
  replace hA := hA.sub (E' := [(8, _), (4, _), (1, _), (2, _), (3, _)]) ⟨rfl, rfl, rfl, rfl, rfl, trivial⟩
  refine wp_seq_k fun K2 hK2 => ?_
  refine wp_seq_k fun K3 hK3 => ?_
  refine wp_region_lit ?_
  refine sq hA (q_move rfl) rfl fun a hA => ?_
  refine sq hA (q_move rfl) rfl fun a hA => ?_
  refine sl hA (lo_call fn11 rfl (great7_any _ _)) rfl ?_
  rintro _ w ⟨rfl, hC⟩ a hA
  replace hH := HS.call0 hH hC
  clear hC
  refine hA.spl (fun hs15 hA => ?_) (fun hs15 hA => ?_)
  · skip
    refine sq hA (q_move rfl) rfl fun a hA => ?_
    refine gs hA rfl rfl rfl rfl fun a hA => ?_
    refine gs hA rfl rfl rfl rfl fun a hA => ?_
    refine gs hA rfl rfl rfl rfl fun a hA => ?_
    refine gs hA rfl rfl rfl rfl fun a hA => ?_
    refine sq hA (q_pick_t rfl rfl) rfl fun a hA => ?_
    refine sq hA (q_move rfl) rfl fun a hA => ?_
    refine gs hA rfl rfl rfl rfl fun a hA => ?_
    refine gs hA rfl rfl rfl rfl fun a hA => ?_
    refine gs hA rfl rfl rfl rfl fun a hA => ?_
    refine gs hA rfl rfl rfl rfl fun a hA => ?_
    refine sq hA (q_pick_t rfl rfl) rfl fun a hA => ?_
    refine sq hA (q_move rfl) rfl fun a hA => ?_
    refine gs hA rfl rfl rfl rfl fun a hA => ?_
    refine gs hA rfl rfl rfl rfl fun a hA => ?_
    refine gs hA rfl rfl rfl rfl fun a hA => ?_
    refine sq hA (q_pick_t rfl rfl) rfl fun a hA => ?_
    refine wpList_nil ?_
    refine hK3 _ _ ?_
    clear hK3
    replace hA := hA.sub (E' := [(32, _), (8, _), (4, _), (1, _), (2, _), (3, _)]) ⟨rfl, rfl, rfl, rfl, rfl, rfl, trivial⟩
    refine cond_t hA rfl ?_
    refine wp_seq_k fun K4 hK4 => ?_
    refine wp_region_lit ?_
    refine sl hA (lo_call fn12 rfl (awake7_any (hg.mono0 hH))) rfl ?_
    rintro _ w ⟨rfl, hC⟩ a hA
    replace hH := HS.call0 hH hC
    clear hC
    refine sq hA (q_assign rfl) rfl fun a hA => ?_
    refine wpList_nil ?_
    refine hK4 _ _ ?_
    clear hK4
    replace hA := hA.sub (E' := [(8, _), (4, _), (1, _), (2, _), (3, _)]) ⟨rfl, rfl, rfl, rfl, rfl, trivial⟩
    refine wp_ret ?_
    refine then_ret ?_
    refine post_ret hA (res_1 rfl hA rfl) ?_
    replace hH := hH.pick [] (Hs' := []) rfl
    exact ⟨_, rfl, rfl, hH⟩
  · skip
    refine sq hA (q_move rfl) rfl fun a hA => ?_
    refine gq hA rfl rfl (q_fld 1 Tryd.underlying27 rfl rfl ti25 rfl) rfl fun a hA => ?_
    refine gq hA rfl rfl (q_loadB hH 0 rfl (List.mem_singleton.2 rfl) Tryd.underlying25 rfl rfl rfl) rfl fun a hA => ?_
    refine gq hA rfl rfl (q_len Tryd.underlying25 rfl (Rd.shp hua)) rfl fun a hA => ?_
    refine gq hA rfl rfl (q_gtrI (n := 100) rfl rfl) rfl fun a hA => ?_
    refine hA.spl (fun hs20 hA => ?_) (fun hs20 hA => ?_)
    · skip
      refine sq hA (q_pick_f rfl rfl) rfl fun a hA => ?_
      refine sq hA (q_move rfl) rfl fun a hA => ?_
      refine gs hA rfl rfl rfl rfl fun a hA => ?_
      refine gs hA rfl rfl rfl rfl fun a hA => ?_
      refine gs hA rfl rfl rfl rfl fun a hA => ?_
      refine gs hA rfl rfl rfl rfl fun a hA => ?_
      refine sq hA (q_pick_t rfl rfl) rfl fun a hA => ?_
      refine sq hA (q_move rfl) rfl fun a hA => ?_
      refine gs hA rfl rfl rfl rfl fun a hA => ?_
      refine gs hA rfl rfl rfl rfl fun a hA => ?_
      refine gs hA rfl rfl rfl rfl fun a hA => ?_
      refine sq hA (q_pick_t rfl rfl) rfl fun a hA => ?_
      refine wpList_nil ?_
      refine hK3 _ _ ?_
      clear hK3
      replace hA := hA.sub (E' := [(32, _), (8, _), (4, _), (1, _), (2, _), (3, _)]) ⟨rfl, rfl, rfl, rfl, rfl, rfl, trivial⟩
      refine cond_t hA rfl ?_
      refine wp_seq_k fun K5 hK5 => ?_
      refine wp_region_lit ?_
      refine sl hA (lo_call fn12 rfl (awake7_any (hg.mono0 hH))) rfl ?_
      rintro _ w ⟨rfl, hC⟩ a hA
      replace hH := HS.call0 hH hC
      clear hC
      refine sq hA (q_assign rfl) rfl fun a hA => ?_
      refine wpList_nil ?_
      refine hK5 _ _ ?_
      clear hK5
      replace hA := hA.sub (E' := [(8, _), (4, _), (1, _), (2, _), (3, _)]) ⟨rfl, rfl, rfl, rfl, rfl, trivial⟩
      refine wp_ret ?_
      refine then_ret ?_
      refine post_ret hA (res_1 rfl hA rfl) ?_
      replace hH := hH.pick [] (Hs' := []) rfl
      exact ⟨_, rfl, rfl, hH⟩
    · skip
      refine sq hA (q_pick_f rfl rfl) rfl fun a hA => ?_
      refine sq hA (q_move rfl) rfl fun a hA => ?_
      refine gq hA rfl rfl (q_fld 2 Tryd.underlying27 rfl rfl ti25 rfl) rfl fun a hA => ?_
      refine gq hA rfl rfl (q_loadB hH 0 rfl (List.mem_singleton.2 rfl) Tryd.underlying25 rfl rfl rfl) rfl fun a hA => ?_
      refine gq hA rfl rfl (q_len Tryd.underlying25 rfl (Rd.shp hxa)) rfl fun a hA => ?_
      refine gq hA rfl rfl (q_gtrI (n := 20) rfl rfl) rfl fun a hA => ?_
      refine hA.spl (fun hs26 hA => ?_) (fun hs26 hA => ?_)
      · skip
        refine sq hA (q_pick_f rfl rfl) rfl fun a hA => ?_
        refine sq hA (q_move rfl) rfl fun a hA => ?_
        refine gs hA rfl rfl rfl rfl fun a hA => ?_
        refine gs hA rfl rfl rfl rfl fun a hA => ?_
        refine gs hA rfl rfl rfl rfl fun a hA => ?_
        refine sq hA (q_pick_t rfl rfl) rfl fun a hA => ?_
        refine wpList_nil ?_
        refine hK3 _ _ ?_
        clear hK3
        replace hA := hA.sub (E' := [(32, _), (8, _), (4, _), (1, _), (2, _), (3, _)]) ⟨rfl, rfl, rfl, rfl, rfl, rfl, trivial⟩
        refine cond_t hA rfl ?_
        refine wp_seq_k fun K6 hK6 => ?_
        refine wp_region_lit ?_
        refine sl hA (lo_call fn12 rfl (awake7_any (hg.mono0 hH))) rfl ?_
        rintro _ w ⟨rfl, hC⟩ a hA
        replace hH := HS.call0 hH hC
        clear hC
        refine sq hA (q_assign rfl) rfl fun a hA => ?_
        refine wpList_nil ?_
        refine hK6 _ _ ?_
        clear hK6
        replace hA := hA.sub (E' := [(8, _), (4, _), (1, _), (2, _), (3, _)]) ⟨rfl, rfl, rfl, rfl, rfl, trivial⟩
        refine wp_ret ?_
        refine then_ret ?_
        refine post_ret hA (res_1 rfl hA rfl) ?_
        replace hH := hH.pick [] (Hs' := []) rfl
        exact ⟨_, rfl, rfl, hH⟩
      · skip
        refine sq hA (q_pick_f rfl rfl) rfl fun a hA => ?_
        refine sq hA (q_move rfl) rfl fun a hA => ?_
        refine gq hA rfl rfl (q_move rfl) rfl fun a hA => ?_
        refine gq hA rfl rfl (q_len Tryd.underlying24 rfl (Rd.shp hr)) rfl fun a hA => ?_
        refine gq hA rfl rfl (q_gtrI (n := 3000) rfl rfl) rfl fun a hA => ?_
        refine hA.spl (fun hs31 hA => ?_) (fun hs31 hA => ?_)
        · skip
          refine sq hA (q_pick_f rfl rfl) rfl fun a hA => ?_
          refine wpList_nil ?_
          refine hK3 _ _ ?_
          clear hK3
          replace hA := hA.sub (E' := [(32, _), (8, _), (4, _), (1, _), (2, _), (3, _)]) ⟨rfl, rfl, rfl, rfl, rfl, rfl, trivial⟩
          refine cond_t hA rfl ?_
          refine wp_seq_k fun K7 hK7 => ?_
          refine wp_region_lit ?_
          refine sl hA (lo_call fn12 rfl (awake7_any (hg.mono0 hH))) rfl ?_
          rintro _ w ⟨rfl, hC⟩ a hA
          replace hH := HS.call0 hH hC
          clear hC
          refine sq hA (q_assign rfl) rfl fun a hA => ?_
          refine wpList_nil ?_
          refine hK7 _ _ ?_
          clear hK7
          replace hA := hA.sub (E' := [(8, _), (4, _), (1, _), (2, _), (3, _)]) ⟨rfl, rfl, rfl, rfl, rfl, trivial⟩
          refine wp_ret ?_
          refine then_ret ?_
          refine post_ret hA (res_1 rfl hA rfl) ?_
          replace hH := hH.pick [] (Hs' := []) rfl
          exact ⟨_, rfl, rfl, hH⟩
        · skip
          refine sq hA (q_pick_f rfl rfl) rfl fun a hA => ?_
          refine wpList_nil ?_
          refine hK3 _ _ ?_
          clear hK3
          replace hA := hA.sub (E' := [(32, _), (8, _), (4, _), (1, _), (2, _), (3, _)]) ⟨rfl, rfl, rfl, rfl, rfl, rfl, trivial⟩
          refine cond_f hA rfl ?_
          refine wp_skip ?_
          refine hK2 _ _ ?_
          clear hK2
          replace hA := hA.sub (E' := [(8, _), (4, _), (1, _), (2, _), (3, _)]) ⟨rfl, rfl, rfl, rfl, rfl, trivial⟩
          refine wp_seq_k fun K8 hK8 => ?_
          refine wp_region_lit ?_
          refine sq hA (q_move rfl) rfl fun a hA => ?_
          rcases Classical.em (R7 n h) with hR | hR
          · skip
            obtain ⟨n, rfl⟩ : ∃ m : Nat, n = m := ⟨n.toNat, by unfold R7 R5 at *; omega⟩
            obtain ⟨h, rfl⟩ : ∃ m : Nat, h = m := ⟨h.toNat, by unfold R7 R5 at *; omega⟩
            have hn5 := hR.1
            have hn1 := hR.1.1
            have hn2 := hR.1.2
            have hh6 : h ≤ 6 := by have := hR.2.2; omega
            have h64 := pow_le64 hh6
            have hp0 : 0 < 2 ^ h := Nat.pow_pos (by decide)
            obtain ⟨D, hD⟩ : ∃ D, D = decK n h l := ⟨_, rfl⟩
            obtain ⟨hD1, hD2, hD3, hD4, hD5⟩ := decK_len l hD
            have hdet : D.2 = 0 → encK D.1.1 D.1.2.1 D.1.2.2 = l := fun hk => by rw [hD] at hk ⊢; exact (decK_det hk).1.symm
            have hDl := encK_len (i := (D.1.1 : Int)) (by omega) hD2 hD3
            refine sl hA (lo_call fn14 rfl (own7_any _ _ (hH.rd hr) (by first | omega | (simp; done) | (simp; omega)))) rfl ?_
            rintro _ w ⟨v_t36, N_t36, rfl, hO_t36, hC⟩ a hA
            replace hH := HS.call0 hH hC
            clear hC
            refine sq hA (q_move rfl) rfl fun a hA => ?_
            refine sq hA (q_move rfl) rfl fun a hA => ?_
            refine sl hA (lo_call fn28 rfl (dec7_g _ _ (Own.rd0 hO_t36 hH 0 rfl) (by first | omega | (simp; done) | (simp; omega)) n h hR hD)) rfl ?_
            rintro _ w ⟨v_ot39, v_pt39, N_ot39, N_pt39, rfl, hOo_t39, hOp_t39, hC⟩ a hA
            replace hH := HS.call0 hH hC
            clear hC
            refine sq hA (q_move rfl) rfl fun a hA => ?_
            refine sq hA (q_extract rfl rfl) rfl fun a hA => ?_
            refine sq hA (q_extract rfl rfl) rfl fun a hA => ?_
            refine sl hA (lo_allocA hH ti27) rfl ?_
            clear hH; rintro _ w ⟨b_t9, rfl, hH⟩ a hA
            refine s0 hA (lo_storeAm hH ti27 rfl rfl (rfl) (rfl) (ones_cons rfl (ones_cons (Own.one hOo_t39) (ones_cons (Own.one hOp_t39) ones_nil)))) ?_
            clear hH; rintro _ w hH
            refine sq hA (q_assign rfl) rfl fun a hA => ?_
            refine wpList_nil ?_
            refine hK8 _ _ ?_
            clear hK8
            replace hA := hA.sub (E' := [(10, _), (9, _), (8, _), (4, _), (1, _), (2, _), (3, _)]) ⟨rfl, rfl, rfl, rfl, rfl, rfl, rfl, trivial⟩
            refine wp_seq_k fun K9 hK9 => ?_
            refine wp_region_lit ?_
            refine sq hA (q_move rfl) rfl fun a hA => ?_
            refine sq hA (q_move rfl) rfl fun a hA => ?_
            refine sq hA (q_move rfl) rfl fun a hA => ?_
            refine sl hA (lo_call fn29 rfl (refdec7_g _ _ (hH.rd hr) (by first | omega | (simp; done) | (simp; omega)) n h hR hD)) rfl ?_
            rintro _ w ⟨v_ot46, v_pt46, N_ot46, N_pt46, rfl, hOo_t46, hOp_t46, hC⟩ a hA
            replace hH := HS.call0 hH hC
            clear hC
            refine sq hA (q_move rfl) rfl fun a hA => ?_
            refine sq hA (q_extract rfl rfl) rfl fun a hA => ?_
            refine sq hA (q_extract rfl rfl) rfl fun a hA => ?_
            refine sl hA (lo_allocA hH ti27) rfl ?_
            clear hH; rintro _ w ⟨b_t11, rfl, hH⟩ a hA
            refine s0 hA (lo_storeAm hH ti27 rfl rfl (rfl) (rfl) (ones_cons rfl (ones_cons (Own.one hOo_t46) (ones_cons (Own.one hOp_t46) ones_nil)))) ?_
            clear hH; rintro _ w hH
            refine sq hA (q_assign rfl) rfl fun a hA => ?_
            refine wpList_nil ?_
            refine hK9 _ _ ?_
            clear hK9
            replace hA := hA.sub (E' := [(12, _), (11, _), (10, _), (9, _), (8, _), (4, _), (1, _)]) ⟨rfl, rfl, rfl, rfl, rfl, rfl, rfl, trivial⟩
            refine wp_seq_k fun K10 hK10 => ?_
            refine wp_seq_k fun K11 hK11 => ?_
            refine any_go mixed (fun _ => true) hH ?_
            clear hH; intro w hH
            have hS := hH
            change wpK _ _ _ _ _ _ 18 #[false, false, false, false, false, false, false, false, false, false, false, false, false, false, false, false, false, false] _ _
            refine aq hA 0 rfl (by kernel_rfl) (by intro c a d v w h; cases d <;> exact h) hS (fun w hH => (q_loadW hH 7 rfl Tryd.underlying27 rfl ti27 rfl (by first | omega | (simp; done) | (simp; omega) | (rw [List.length_map]; assumption) | assumption | rfl | (simp [*]; done) | (simp [*]; omega)))) rfl (listed' := #[true, false, false, false, false, false, false, false, false, false, false, false, false, false, false, false, false, false]) rfl fun a hA => ?_
            refine aq hA 3 rfl (by kernel_rfl) (by intro c a d v w h; cases d <;> exact h) hS (fun w hH => (q_loadW hH 7 rfl Tryd.underlying27 rfl ti27 rfl (by first | omega | (simp; done) | (simp; omega) | (rw [List.length_map]; assumption) | assumption | rfl | (simp [*]; done) | (simp [*]; omega)))) rfl (listed' := #[true, false, false, true, false, false, false, false, false, false, false, false, false, false, false, false, false, false]) rfl fun a hA => ?_
            refine al hA 1 rfl (by kernel_rfl) (lo_call fn15 rfl (copy7_any _ _ _ _ _ (by first | assumption | exact Dg.nil) (by first | assumption | exact Dg.nil) (hH.rd hua) (hH.rd hxa) (by first | omega | (simp; done) | (simp; omega)) (by first | omega | (simp; done) | (simp; omega)))) rfl (listed' := #[true, true, false, true, false, false, false, false, false, false, false, false, false, false, false, false, false, false]) rfl ?_
            rintro _ w ⟨v_ot50, v_pt50, N_ot50, N_pt50, rfl, hOo_t50, hOp_t50, hC⟩
            replace hH := HS.call0 hH hC
            clear hC
            have hS' := hH.pick [2, 3, 4, 5, 6, 7, 8, 9] (Hs' := [_, _, _, _, _, _, _, _]) rfl
            replace hS := hS'; clear hS'
            refine ⟨fun _ _ => hS, ?_⟩
            intro a hA
            refine al hA 2 rfl (by kernel_rfl) (lo_call fn31 rfl (enc7_any _ _ _ _ _ (by first | assumption | exact Dg.nil) (by first | assumption | exact Dg.nil) (Own.rd0 hOo_t50 hH 0 rfl) (Own.rd0 hOp_t50 hH 1 rfl) (by first | omega | (simp; done) | (simp; omega)) (by first | omega | (simp; done) | (simp; omega)) (by omega))) rfl (listed' := #[true, true, true, true, false, false, false, false, false, false, false, false, false, false, false, false, false, false]) rfl ?_
            rintro _ w ⟨v_t51, N_t51, rfl, hO_t51, hC⟩
            replace hH := HS.call0 hH hC
            clear hC
            have hS' := hH.pick [3, 4, 5, 6, 7, 8, 9, 10] (Hs' := [_, _, _, _, _, _, _, _]) rfl
            replace hS := hS'; clear hS'
            refine ⟨fun _ _ => hS, ?_⟩
            intro a hA
            refine al hA 4 rfl (by kernel_rfl) (lo_call fn32 rfl (refenc7_any _ _ _ _ _ (by first | assumption | exact Dg.nil) (by first | assumption | exact Dg.nil) (hH.rd hua) (hH.rd hxa) (by first | omega | (simp; done) | (simp; omega)) (by first | omega | (simp; done) | (simp; omega)) (by omega))) rfl (listed' := #[true, true, true, true, true, false, false, false, false, false, false, false, false, false, false, false, false, false]) rfl ?_
            rintro _ w ⟨v_t53, N_t53, rfl, hO_t53, hC⟩
            replace hH := HS.call0 hH hC
            clear hC
            have hS' := hH.pick [4, 5, 6, 7, 8, 9, 10, 11] (Hs' := [_, _, _, _, _, _, _, _]) rfl
            replace hS := hS'; clear hS'
            refine ⟨fun _ _ => hS, ?_⟩
            intro a hA
            refine al hA 5 rfl (by kernel_rfl) (lo_call fn30 rfl (same_any _ _ _ _ (Own.rd0 hO_t51 hH 1 rfl) (Own.rd0 hO_t53 hH 0 rfl) (by first | omega | (simp; done) | (simp; omega)) (by first | omega | (simp; done) | (simp; omega)))) rfl (listed' := #[true, true, true, true, true, true, false, false, false, false, false, false, false, false, false, false, false, false]) rfl ?_
            rintro _ w ⟨rfl, hC⟩
            replace hH := HS.call0 hH hC
            clear hC
            have hS' := hH.pick [4, 5, 6, 7, 8, 9, 10, 11] (Hs' := [_, _, _, _, _, _, _, _]) rfl
            replace hS := hS'; clear hS'
            refine ⟨fun _ _ => hS, ?_⟩
            intro a hA
            replace hA := hA.decT (by rfl)
            refine apq hA 6 rfl (by kernel_rfl) (by intro c a d v w h; cases d <;> exact h) (fun w => (q_not rfl)) rfl (listed' := #[true, true, true, true, true, true, true, false, false, false, false, false, false, false, false, false, false, false]) rfl fun a hA => ?_
            refine apq hA 7 rfl (by kernel_rfl) (by intro c a d v w h; cases d <;> exact h) (fun w => (q_move rfl)) rfl (listed' := #[true, true, true, true, true, true, true, true, false, false, false, false, false, false, false, false, false, false]) rfl fun a hA => ?_
            refine apgq hA 8 rfl (by kernel_rfl) rfl rfl (by intro c a d v w h; cases d <;> exact h) (fun w => (q_move rfl)) rfl (listed' := #[true, true, true, true, true, true, true, true, true, false, false, false, false, false, false, false, false, false]) rfl fun a hA => ?_
            refine apgq hA 9 rfl (by kernel_rfl) rfl rfl (by intro c a d v w h; cases d <;> exact h) (fun w => (q_move rfl)) rfl (listed' := #[true, true, true, true, true, true, true, true, true, true, false, false, false, false, false, false, false, false]) rfl fun a hA => ?_
            refine apgq hA 10 rfl (by kernel_rfl) rfl rfl (by intro c a d v w h; cases d <;> exact h) (fun w => (q_neqI rfl rfl)) rfl (listed' := #[true, true, true, true, true, true, true, true, true, true, true, false, false, false, false, false, false, false]) rfl fun a hA => ?_
            replace hA := hA.decF (by exact fun h => h rfl)
            refine apq hA 11 rfl (by kernel_rfl) (by intro c a d v w h; cases d <;> exact h) (fun w => (q_pick_f rfl rfl)) rfl (listed' := #[true, true, true, true, true, true, true, true, true, true, true, true, false, false, false, false, false, false]) rfl fun a hA => ?_
            refine apq hA 12 rfl (by kernel_rfl) (by intro c a d v w h; cases d <;> exact h) (fun w => (q_move rfl)) rfl (listed' := #[true, true, true, true, true, true, true, true, true, true, true, true, true, false, false, false, false, false]) rfl fun a hA => ?_
            refine agq hA 13 rfl (by kernel_rfl) rfl rfl (by intro c a d v w h; cases d <;> exact h) hS (fun w hH => (q_loadW hH 3 rfl Tryd.underlying27 rfl ti27 rfl (by first | omega | (simp; done) | (simp; omega) | (rw [List.length_map]; assumption) | assumption | rfl | (simp [*]; done) | (simp [*]; omega)))) rfl (listed' := #[true, true, true, true, true, true, true, true, true, true, true, true, true, true, false, false, false, false]) rfl fun a hA => ?_
            refine agq hA 14 rfl (by kernel_rfl) rfl rfl (by intro c a d v w h; cases d <;> exact h) hS (fun w hH => (q_loadW hH 0 rfl Tryd.underlying27 rfl ti27 rfl (by first | omega | (simp; done) | (simp; omega) | (rw [List.length_map]; assumption) | assumption | rfl | (simp [*]; done) | (simp [*]; omega)))) rfl (listed' := #[true, true, true, true, true, true, true, true, true, true, true, true, true, true, true, false, false, false]) rfl fun a hA => ?_
            refine agl hA 15 rfl (by kernel_rfl) rfl rfl (lo_call fn27 rfl (same7_any _ _ _ _ _ (by first | assumption | exact Dg.nil) (by first | assumption | exact Dg.nil) (Own.rd0 hOo_t39 hH 8 rfl) (Own.rd0 hOp_t39 hH 9 rfl) (by first | omega | (simp; done) | (simp; omega)) (by first | omega | (simp; done) | (simp; omega)) _ _ _ _ _ (by first | assumption | exact Dg.nil) (by first | assumption | exact Dg.nil) (Own.rd0 hOo_t46 hH 5 rfl) (Own.rd0 hOp_t46 hH 6 rfl) (by first | omega | (simp; done) | (simp; omega)) (by first | omega | (simp; done) | (simp; omega)))) rfl (listed' := #[true, true, true, true, true, true, true, true, true, true, true, true, true, true, true, true, false, false]) rfl ?_
            rintro _ w ⟨rfl, hC⟩
            replace hH := HS.call0 hH hC
            clear hC
            have hS' := hH.pick [4, 5, 6, 7, 8, 9, 10, 11] (Hs' := [_, _, _, _, _, _, _, _]) rfl
            replace hS := hS'; clear hS'
            refine ⟨fun _ _ => hS, ?_⟩
            intro a hA
            replace hA := hA.decT (by exact ⟨rfl, rfl, rfl⟩)
            refine apgq hA 16 rfl (by kernel_rfl) rfl rfl (by intro c a d v w h; cases d <;> exact h) (fun w => (q_not rfl)) rfl (listed' := #[true, true, true, true, true, true, true, true, true, true, true, true, true, true, true, true, true, false]) rfl fun a hA => ?_
            refine apq hA 17 rfl (by kernel_rfl) (by intro c a d v w h; cases d <;> exact h) (fun w => (q_pick_f rfl rfl)) rfl (listed' := #[true, true, true, true, true, true, true, true, true, true, true, true, true, true, true, true, true, true]) rfl fun a hA => ?_
            refine a_end (by kernel_rfl) ?_ _
            refine hK11 _ _ ?_
            clear hK11
            replace hA := hA.sub (E' := [(66, _), (10, _), (9, _), (8, _), (1, _)]) ⟨rfl, rfl, rfl, rfl, rfl, trivial⟩
            refine cond_f hA rfl ?_
            refine wp_skip ?_
            refine hK10 _ _ ?_
            clear hK10
            replace hA := hA.sub (E' := [(10, _), (9, _), (8, _), (1, _)]) ⟨rfl, rfl, rfl, rfl, trivial⟩
            refine wp_seq_k fun K12 hK12 => ?_
            refine wp_region_lit ?_
            refine sq hA (q_move rfl) rfl fun a hA => ?_
            refine sq hA (q_neqI (n := 0) rfl rfl) rfl fun a hA => ?_
            refine hA.spl (fun hs68 hA => ?_) (fun hs68 hA => ?_)
            · skip
              refine sq hA (q_move rfl) rfl fun a hA => ?_
              refine gs hA rfl rfl rfl rfl fun a hA => ?_
              refine gs hA rfl rfl rfl rfl fun a hA => ?_
              refine gs hA rfl rfl rfl rfl fun a hA => ?_
              refine gs hA rfl rfl rfl rfl fun a hA => ?_
              refine sq hA (q_pick_t rfl rfl) rfl fun a hA => ?_
              refine sq hA (q_move rfl) rfl fun a hA => ?_
              refine gl hA rfl rfl (lo_call fn12 rfl (awake7_any (hg.mono0 hH))) rfl ?_
              rintro _ w ⟨rfl, hC⟩ a hA
              replace hH := HS.call0 hH hC
              clear hC
              refine sq hA (q_pick_t rfl rfl) rfl fun a hA => ?_
              refine sq hA (q_assign rfl) rfl fun a hA => ?_
              refine wpList_nil ?_
              refine hK12 _ _ ?_
              clear hK12
              replace hA := hA.sub (E' := [(8, _)]) ⟨rfl, trivial⟩
              refine wp_ret ?_
              refine post_ret hA (res_1 rfl hA rfl) ?_
              replace hH := hH.pick [] (Hs' := []) rfl
              exact ⟨_, rfl, rfl, hH⟩
            · skip
              refine sq hA (q_move rfl) rfl fun a hA => ?_
              refine gq hA rfl rfl (q_loadW hH 7 rfl Tryd.underlying27 rfl ti27 rfl (by first | omega | (simp; done) | (simp; omega) | (rw [List.length_map]; assumption) | assumption | rfl | (simp [*]; done) | (simp [*]; omega))) rfl fun a hA => ?_
              refine gl hA rfl rfl (lo_call fn31 rfl (enc7_any _ _ _ _ _ (by first | assumption | exact Dg.nil) (by first | assumption | exact Dg.nil) (Own.rd0 hOo_t39 hH 8 rfl) (Own.rd0 hOp_t39 hH 9 rfl) (by first | omega | (simp; done) | (simp; omega)) (by first | omega | (simp; done) | (simp; omega)) (by omega))) rfl ?_
              rintro _ w ⟨v_t71, N_t71, rfl, hO_t71, hC⟩ a hA
              replace hH := HS.call0 hH hC
              clear hC
              refine gq hA rfl rfl (q_move rfl) rfl fun a hA => ?_
              refine gl hA rfl rfl (lo_call fn30 rfl (same_any _ _ _ _ (Own.rd0 hO_t71 hH 0 rfl) (hH.rd hr) (by first | omega | (simp; done) | (simp; omega)) (by first | omega | (simp; done) | (simp; omega)))) rfl ?_
              rintro _ w ⟨rfl, hC⟩ a hA
              replace hH := HS.call0 hH hC
              clear hC
              replace hA := hA.decT (by first | exact hdet (by omega) | (exfalso; omega))
              refine sq hA (q_pick_f rfl rfl) rfl fun a hA => ?_
              refine sq hA (q_move rfl) rfl fun a hA => ?_
              refine gl hA rfl rfl (lo_call fn12 rfl (awake7_any (hg.mono0 hH))) rfl ?_
              rintro _ w ⟨rfl, hC⟩ a hA
              replace hH := HS.call0 hH hC
              clear hC
              refine sq hA (q_pick_t rfl rfl) rfl fun a hA => ?_
              refine sq hA (q_assign rfl) rfl fun a hA => ?_
              refine wpList_nil ?_
              refine hK12 _ _ ?_
              clear hK12
              replace hA := hA.sub (E' := [(8, _)]) ⟨rfl, trivial⟩
              refine wp_ret ?_
              refine post_ret hA (res_1 rfl hA rfl) ?_
              replace hH := hH.pick [] (Hs' := []) rfl
              exact ⟨_, rfl, rfl, hH⟩
          · skip
            refine sl hA (lo_call fn14 rfl (own7_any _ _ (hH.rd hr) (by first | omega | (simp; done) | (simp; omega)))) rfl ?_
            rintro _ w ⟨v_t36, N_t36, rfl, hO_t36, hC⟩ a hA
            replace hH := HS.call0 hH hC
            clear hC
            refine sq hA (q_move rfl) rfl fun a hA => ?_
            refine sq hA (q_move rfl) rfl fun a hA => ?_
            refine sl hA (lo_call fn28 rfl (dec7_bad _ _ _ hR)) rfl ?_
            rintro _ w ⟨rfl, hC⟩ a hA
            replace hH := HS.call0 hH hC
            clear hC
            refine sq hA (q_move rfl) rfl fun a hA => ?_
            refine sq hA (q_extract rfl rfl) rfl fun a hA => ?_
            refine sq hA (q_extract rfl rfl) rfl fun a hA => ?_
            refine sl hA (lo_allocA hH ti27) rfl ?_
            clear hH; rintro _ w ⟨b_t9, rfl, hH⟩ a hA
            refine s0 hA (lo_storeAm hH ti27 rfl rfl (rfl) (rfl) (ones_cons rfl (ones_cons rfl (ones_cons rfl ones_nil)))) ?_
            clear hH; rintro _ w hH
            refine sq hA (q_assign rfl) rfl fun a hA => ?_
            refine wpList_nil ?_
            refine hK8 _ _ ?_
            clear hK8
            replace hA := hA.sub (E' := [(10, _), (9, _), (8, _), (4, _), (1, _), (2, _), (3, _)]) ⟨rfl, rfl, rfl, rfl, rfl, rfl, rfl, trivial⟩
            refine wp_seq_k fun K13 hK13 => ?_
            refine wp_region_lit ?_
            refine sq hA (q_move rfl) rfl fun a hA => ?_
            refine sq hA (q_move rfl) rfl fun a hA => ?_
            refine sq hA (q_move rfl) rfl fun a hA => ?_
            refine sl hA (lo_call fn29 rfl (refdec7_bad _ _ _ hR)) rfl ?_
            rintro _ w ⟨rfl, hC⟩ a hA
            replace hH := HS.call0 hH hC
            clear hC
            refine sq hA (q_move rfl) rfl fun a hA => ?_
            refine sq hA (q_extract rfl rfl) rfl fun a hA => ?_
            refine sq hA (q_extract rfl rfl) rfl fun a hA => ?_
            refine sl hA (lo_allocA hH ti27) rfl ?_
            clear hH; rintro _ w ⟨b_t11, rfl, hH⟩ a hA
            refine s0 hA (lo_storeAm hH ti27 rfl rfl (rfl) (rfl) (ones_cons rfl (ones_cons rfl (ones_cons rfl ones_nil)))) ?_
            clear hH; rintro _ w hH
            refine sq hA (q_assign rfl) rfl fun a hA => ?_
            refine wpList_nil ?_
            refine hK13 _ _ ?_
            clear hK13
            replace hA := hA.sub (E' := [(12, _), (11, _), (10, _), (9, _), (8, _), (4, _), (1, _)]) ⟨rfl, rfl, rfl, rfl, rfl, rfl, rfl, trivial⟩
            refine wp_seq_k fun K14 hK14 => ?_
            refine wp_seq_k fun K15 hK15 => ?_
            refine any_go mixed (fun _ => true) hH ?_
            clear hH; intro w hH
            have hS := hH
            change wpK _ _ _ _ _ _ 18 #[false, false, false, false, false, false, false, false, false, false, false, false, false, false, false, false, false, false] _ _
            refine aq hA 0 rfl (by kernel_rfl) (by intro c a d v w h; cases d <;> exact h) hS (fun w hH => (q_loadW hH 3 rfl Tryd.underlying27 rfl ti27 rfl (by first | omega | (simp; done) | (simp; omega) | (rw [List.length_map]; assumption) | assumption | rfl | (simp [*]; done) | (simp [*]; omega)))) rfl (listed' := #[true, false, false, false, false, false, false, false, false, false, false, false, false, false, false, false, false, false]) rfl fun a hA => ?_
            refine aq hA 3 rfl (by kernel_rfl) (by intro c a d v w h; cases d <;> exact h) hS (fun w hH => (q_loadW hH 3 rfl Tryd.underlying27 rfl ti27 rfl (by first | omega | (simp; done) | (simp; omega) | (rw [List.length_map]; assumption) | assumption | rfl | (simp [*]; done) | (simp [*]; omega)))) rfl (listed' := #[true, false, false, true, false, false, false, false, false, false, false, false, false, false, false, false, false, false]) rfl fun a hA => ?_
            refine al hA 1 rfl (by kernel_rfl) (lo_call fn15 rfl (copy7_any _ _ _ _ _ (by first | assumption | exact Dg.nil) (by first | assumption | exact Dg.nil) (hH.rd hua) (hH.rd hxa) (by first | omega | (simp; done) | (simp; omega)) (by first | omega | (simp; done) | (simp; omega)))) rfl (listed' := #[true, true, false, true, false, false, false, false, false, false, false, false, false, false, false, false, false, false]) rfl ?_
            rintro _ w ⟨v_ot50, v_pt50, N_ot50, N_pt50, rfl, hOo_t50, hOp_t50, hC⟩
            replace hH := HS.call0 hH hC
            clear hC
            have hS' := hH.pick [2, 3, 4, 5] (Hs' := [_, _, _, _]) rfl
            replace hS := hS'; clear hS'
            refine ⟨fun _ _ => hS, ?_⟩
            intro a hA
            refine al hA 2 rfl (by kernel_rfl) (lo_call fn31 rfl (enc7_any _ _ _ _ _ (by first | assumption | exact Dg.nil) (by first | assumption | exact Dg.nil) (Own.rd0 hOo_t50 hH 0 rfl) (Own.rd0 hOp_t50 hH 1 rfl) (by first | omega | (simp; done) | (simp; omega)) (by first | omega | (simp; done) | (simp; omega)) (by omega))) rfl (listed' := #[true, true, true, true, false, false, false, false, false, false, false, false, false, false, false, false, false, false]) rfl ?_
            rintro _ w ⟨v_t51, N_t51, rfl, hO_t51, hC⟩
            replace hH := HS.call0 hH hC
            clear hC
            have hS' := hH.pick [3, 4, 5, 6] (Hs' := [_, _, _, _]) rfl
            replace hS := hS'; clear hS'
            refine ⟨fun _ _ => hS, ?_⟩
            intro a hA
            refine al hA 4 rfl (by kernel_rfl) (lo_call fn32 rfl (refenc7_any _ _ _ _ _ (by first | assumption | exact Dg.nil) (by first | assumption | exact Dg.nil) (hH.rd hua) (hH.rd hxa) (by first | omega | (simp; done) | (simp; omega)) (by first | omega | (simp; done) | (simp; omega)) (by omega))) rfl (listed' := #[true, true, true, true, true, false, false, false, false, false, false, false, false, false, false, false, false, false]) rfl ?_
            rintro _ w ⟨v_t53, N_t53, rfl, hO_t53, hC⟩
            replace hH := HS.call0 hH hC
            clear hC
            have hS' := hH.pick [4, 5, 6, 7] (Hs' := [_, _, _, _]) rfl
            replace hS := hS'; clear hS'
            refine ⟨fun _ _ => hS, ?_⟩
            intro a hA
            refine al hA 5 rfl (by kernel_rfl) (lo_call fn30 rfl (same_any _ _ _ _ (Own.rd0 hO_t51 hH 1 rfl) (Own.rd0 hO_t53 hH 0 rfl) (by first | omega | (simp; done) | (simp; omega)) (by first | omega | (simp; done) | (simp; omega)))) rfl (listed' := #[true, true, true, true, true, true, false, false, false, false, false, false, false, false, false, false, false, false]) rfl ?_
            rintro _ w ⟨rfl, hC⟩
            replace hH := HS.call0 hH hC
            clear hC
            have hS' := hH.pick [4, 5, 6, 7] (Hs' := [_, _, _, _]) rfl
            replace hS := hS'; clear hS'
            refine ⟨fun _ _ => hS, ?_⟩
            intro a hA
            replace hA := hA.decT (by rfl)
            refine apq hA 6 rfl (by kernel_rfl) (by intro c a d v w h; cases d <;> exact h) (fun w => (q_not rfl)) rfl (listed' := #[true, true, true, true, true, true, true, false, false, false, false, false, false, false, false, false, false, false]) rfl fun a hA => ?_
            refine apq hA 7 rfl (by kernel_rfl) (by intro c a d v w h; cases d <;> exact h) (fun w => (q_move rfl)) rfl (listed' := #[true, true, true, true, true, true, true, true, false, false, false, false, false, false, false, false, false, false]) rfl fun a hA => ?_
            refine apgq hA 8 rfl (by kernel_rfl) rfl rfl (by intro c a d v w h; cases d <;> exact h) (fun w => (q_move rfl)) rfl (listed' := #[true, true, true, true, true, true, true, true, true, false, false, false, false, false, false, false, false, false]) rfl fun a hA => ?_
            refine apgq hA 9 rfl (by kernel_rfl) rfl rfl (by intro c a d v w h; cases d <;> exact h) (fun w => (q_move rfl)) rfl (listed' := #[true, true, true, true, true, true, true, true, true, true, false, false, false, false, false, false, false, false]) rfl fun a hA => ?_
            refine apgq hA 10 rfl (by kernel_rfl) rfl rfl (by intro c a d v w h; cases d <;> exact h) (fun w => (q_neqI rfl rfl)) rfl (listed' := #[true, true, true, true, true, true, true, true, true, true, true, false, false, false, false, false, false, false]) rfl fun a hA => ?_
            replace hA := hA.decF (by exact fun h => h rfl)
            refine apq hA 11 rfl (by kernel_rfl) (by intro c a d v w h; cases d <;> exact h) (fun w => (q_pick_f rfl rfl)) rfl (listed' := #[true, true, true, true, true, true, true, true, true, true, true, true, false, false, false, false, false, false]) rfl fun a hA => ?_
            refine apq hA 12 rfl (by kernel_rfl) (by intro c a d v w h; cases d <;> exact h) (fun w => (q_move rfl)) rfl (listed' := #[true, true, true, true, true, true, true, true, true, true, true, true, true, false, false, false, false, false]) rfl fun a hA => ?_
            refine agq hA 13 rfl (by kernel_rfl) rfl rfl (by intro c a d v w h; cases d <;> exact h) hS (fun w hH => (q_loadW hH 1 rfl Tryd.underlying27 rfl ti27 rfl (by first | omega | (simp; done) | (simp; omega) | (rw [List.length_map]; assumption) | assumption | rfl | (simp [*]; done) | (simp [*]; omega)))) rfl (listed' := #[true, true, true, true, true, true, true, true, true, true, true, true, true, true, false, false, false, false]) rfl fun a hA => ?_
            refine agq hA 14 rfl (by kernel_rfl) rfl rfl (by intro c a d v w h; cases d <;> exact h) hS (fun w hH => (q_loadW hH 0 rfl Tryd.underlying27 rfl ti27 rfl (by first | omega | (simp; done) | (simp; omega) | (rw [List.length_map]; assumption) | assumption | rfl | (simp [*]; done) | (simp [*]; omega)))) rfl (listed' := #[true, true, true, true, true, true, true, true, true, true, true, true, true, true, true, false, false, false]) rfl fun a hA => ?_
            refine agl hA 15 rfl (by kernel_rfl) rfl rfl (lo_call fn27 rfl (same7_any _ _ _ _ _ (by first | assumption | exact Dg.nil) (by first | assumption | exact Dg.nil) RdD.nilV RdD.nilV (by first | omega | (simp; done) | (simp; omega)) (by first | omega | (simp; done) | (simp; omega)) _ _ _ _ _ (by first | assumption | exact Dg.nil) (by first | assumption | exact Dg.nil) RdD.nilV RdD.nilV (by first | omega | (simp; done) | (simp; omega)) (by first | omega | (simp; done) | (simp; omega)))) rfl (listed' := #[true, true, true, true, true, true, true, true, true, true, true, true, true, true, true, true, false, false]) rfl ?_
            rintro _ w ⟨rfl, hC⟩
            replace hH := HS.call0 hH hC
            clear hC
            have hS' := hH.pick [4, 5, 6, 7] (Hs' := [_, _, _, _]) rfl
            replace hS := hS'; clear hS'
            refine ⟨fun _ _ => hS, ?_⟩
            intro a hA
            replace hA := hA.decT (by exact ⟨rfl, rfl, rfl⟩)
            refine apgq hA 16 rfl (by kernel_rfl) rfl rfl (by intro c a d v w h; cases d <;> exact h) (fun w => (q_not rfl)) rfl (listed' := #[true, true, true, true, true, true, true, true, true, true, true, true, true, true, true, true, true, false]) rfl fun a hA => ?_
            refine apq hA 17 rfl (by kernel_rfl) (by intro c a d v w h; cases d <;> exact h) (fun w => (q_pick_f rfl rfl)) rfl (listed' := #[true, true, true, true, true, true, true, true, true, true, true, true, true, true, true, true, true, true]) rfl fun a hA => ?_
            refine a_end (by kernel_rfl) ?_ _
            refine hK15 _ _ ?_
            clear hK15
            replace hA := hA.sub (E' := [(66, _), (10, _), (9, _), (8, _), (1, _)]) ⟨rfl, rfl, rfl, rfl, rfl, trivial⟩
            refine cond_f hA rfl ?_
            refine wp_skip ?_
            refine hK14 _ _ ?_
            clear hK14
            replace hA := hA.sub (E' := [(10, _), (9, _), (8, _), (1, _)]) ⟨rfl, rfl, rfl, rfl, trivial⟩
            refine wp_seq_k fun K16 hK16 => ?_
            refine wp_region_lit ?_
            refine sq hA (q_move rfl) rfl fun a hA => ?_
            refine sq hA (q_neqI (n := 0) rfl rfl) rfl fun a hA => ?_
            refine hA.spl (fun hs68 hA => ?_) (fun hs68 hA => ?_)
            · skip
              refine sq hA (q_move rfl) rfl fun a hA => ?_
              refine gs hA rfl rfl rfl rfl fun a hA => ?_
              refine gs hA rfl rfl rfl rfl fun a hA => ?_
              refine gs hA rfl rfl rfl rfl fun a hA => ?_
              refine gs hA rfl rfl rfl rfl fun a hA => ?_
              refine sq hA (q_pick_t rfl rfl) rfl fun a hA => ?_
              refine sq hA (q_move rfl) rfl fun a hA => ?_
              refine gl hA rfl rfl (lo_call fn12 rfl (awake7_any (hg.mono0 hH))) rfl ?_
              rintro _ w ⟨rfl, hC⟩ a hA
              replace hH := HS.call0 hH hC
              clear hC
              refine sq hA (q_pick_t rfl rfl) rfl fun a hA => ?_
              refine sq hA (q_assign rfl) rfl fun a hA => ?_
              refine wpList_nil ?_
              refine hK16 _ _ ?_
              clear hK16
              replace hA := hA.sub (E' := [(8, _)]) ⟨rfl, trivial⟩
              refine wp_ret ?_
              refine post_ret hA (res_1 rfl hA rfl) ?_
              replace hH := hH.pick [] (Hs' := []) rfl
              exact ⟨_, rfl, rfl, hH⟩
            · skip
              refine sq hA (q_move rfl) rfl fun a hA => ?_
              refine gq hA rfl rfl (q_loadW hH 5 rfl Tryd.underlying27 rfl ti27 rfl (by first | omega | (simp; done) | (simp; omega) | (rw [List.length_map]; assumption) | assumption | rfl | (simp [*]; done) | (simp [*]; omega))) rfl fun a hA => ?_
              refine gl hA rfl rfl (lo_call fn31 rfl (enc7_any _ _ _ _ _ (by first | assumption | exact Dg.nil) (by first | assumption | exact Dg.nil) RdD.nilV RdD.nilV (by first | omega | (simp; done) | (simp; omega)) (by first | omega | (simp; done) | (simp; omega)) (by omega))) rfl ?_
              rintro _ w ⟨v_t71, N_t71, rfl, hO_t71, hC⟩ a hA
              replace hH := HS.call0 hH hC
              clear hC
              refine gq hA rfl rfl (q_move rfl) rfl fun a hA => ?_
              refine gl hA rfl rfl (lo_call fn30 rfl (same_any _ _ _ _ (Own.rd0 hO_t71 hH 0 rfl) (hH.rd hr) (by first | omega | (simp; done) | (simp; omega)) (by first | omega | (simp; done) | (simp; omega)))) rfl ?_
              rintro _ w ⟨rfl, hC⟩ a hA
              replace hH := HS.call0 hH hC
              clear hC
              replace hA := hA.decT (by first | exact hdet (by omega) | (exfalso; omega))
              refine sq hA (q_pick_f rfl rfl) rfl fun a hA => ?_
              refine sq hA (q_move rfl) rfl fun a hA => ?_
              refine gl hA rfl rfl (lo_call fn12 rfl (awake7_any (hg.mono0 hH))) rfl ?_
              rintro _ w ⟨rfl, hC⟩ a hA
              replace hH := HS.call0 hH hC
              clear hC
              refine sq hA (q_pick_t rfl rfl) rfl fun a hA => ?_
              refine sq hA (q_assign rfl) rfl fun a hA => ?_
              refine wpList_nil ?_
              refine hK16 _ _ ?_
              clear hK16
              replace hA := hA.sub (E' := [(8, _)]) ⟨rfl, trivial⟩
              refine wp_ret ?_
              refine post_ret hA (res_1 rfl hA rfl) ?_
              replace hH := hH.pick [] (Hs' := []) rfl
              exact ⟨_, rfl, rfl, hH⟩

set_option maxHeartbeats 2000000 in
theorem keysThere_any {w0 : World} {lv : Nat} (hg : Gl lv w0) (ix : Int) (ua xa : Value) (A B : List Bs) (hdA : Dg A) (hdB : Dg B) (hua : RdD [] w0 ua A) (hxa : RdD [] w0 xa B) (hlA : A.length ≤ 1048576) (hlB : B.length ≤ 1048576) (hi9 : ix ≤ 9223372036854775807) (n h : Int) :
    Calls Tryd.prog 10 #[(.agg #[I ix, ua, xa]), I n, I h] w0 (Ret fun r w' => r = .bool true ∧ HS [] w0 w' []) := by
  have hH := HS.start w0
  refine start (n := 65) (E := [(0, _), (1, _), (2, _)]) Tryd.func10 rfl rfl rfl (args_look rfl) ?_
  intro a hA
  refine wp_seq_k fun K1 hK1 => ?_
  refine wp_region_lit ?_
  refine sl hA (lo_boxA hH rfl) rfl ?_
  clear hH; rintro _ w ⟨b_t3, rfl, hH⟩ a hA
  refine sq hA (q_assign rfl) rfl fun a hA => ?_
  refine wpList_nil ?_
  refine hK1 _ _ ?_
  clear hK1
  replace hA := hA.sub (E' := [(6, _), (3, _), (1, _), (2, _)]) ⟨rfl, rfl, rfl, rfl, trivial⟩
  refine wp_seq_k fun K2 hK2 => ?_
  refine wp_seq_k fun K3 hK3 => ?_
  refine any_go mixed (fun _ => true) hH ?_
  clear hH; intro w hH
  have hS := hH
  change wpK _ _ _ _ _ _ 36 #[false, false, false, false, false, false, false, false, false, false, false, false, false, false, false, false, false, false, false, false, false, false, false, false, false, false, false, false, false, false, false, false, false, false, false, false] _ _
  refine apq hA 0 rfl (by kernel_rfl) (by intro c a d v w h; cases d <;> exact h) (fun w => (q_move rfl)) rfl (listed' := #[true, false, false, false, false, false, false, false, false, false, false, false, false, false, false, false, false, false, false, false, false, false, false, false, false, false, false, false, false, false, false, false, false, false, false, false]) rfl fun a hA => ?_
  refine apq hA 1 rfl (by kernel_rfl) (by intro c a d v w h; cases d <;> exact h) (fun w => (q_move rfl)) rfl (listed' := #[true, true, false, false, false, false, false, false, false, false, false, false, false, false, false, false, false, false, false, false, false, false, false, false, false, false, false, false, false, false, false, false, false, false, false, false]) rfl fun a hA => ?_
  refine al hA 2 rfl (by kernel_rfl) (lo_call fn11 rfl (great7_any _ _)) rfl (listed' := #[true, true, true, false, false, false, false, false, false, false, false, false, false, false, false, false, false, false, false, false, false, false, false, false, false, false, false, false, false, false, false, false, false, false, false, false]) rfl ?_
  rintro _ w ⟨rfl, hC⟩
  replace hH := HS.call0 hH hC
  clear hC
  have hS' := hH.pick [0] (Hs' := [_]) rfl
  replace hS := hS'; clear hS'
  refine ⟨fun _ _ => hS, ?_⟩
  intro a hA
  refine hA.spl (fun hs11 hA => ?_) (fun hs11 hA => ?_)
  · skip
    refine apq hA 3 rfl (by kernel_rfl) (by intro c a d v w h; cases d <;> exact h) (fun w => (q_move rfl)) rfl (listed' := #[true, true, true, true, false, false, false, false, false, false, false, false, false, false, false, false, false, false, false, false, false, false, false, false, false, false, false, false, false, false, false, false, false, false, false, false]) rfl fun a hA => ?_
    refine apgs hA 4 rfl (by kernel_rfl) rfl rfl rfl (by intro c a d v w h; cases d <;> exact h) rfl (listed' := #[true, true, true, true, true, false, false, false, false, false, false, false, false, false, false, false, false, false, false, false, false, false, false, false, false, false, false, false, false, false, false, false, false, false, false, false]) rfl fun a hA => ?_
    refine apgs hA 5 rfl (by kernel_rfl) rfl rfl rfl (by intro c a d v w h; cases d <;> exact h) rfl (listed' := #[true, true, true, true, true, true, false, false, false, false, false, false, false, false, false, false, false, false, false, false, false, false, false, false, false, false, false, false, false, false, false, false, false, false, false, false]) rfl fun a hA => ?_
    refine apgs hA 6 rfl (by kernel_rfl) rfl rfl rfl (by intro c a d v w h; cases d <;> exact h) rfl (listed' := #[true, true, true, true, true, true, true, false, false, false, false, false, false, false, false, false, false, false, false, false, false, false, false, false, false, false, false, false, false, false, false, false, false, false, false, false]) rfl fun a hA => ?_
    refine apgs hA 7 rfl (by kernel_rfl) rfl rfl rfl (by intro c a d v w h; cases d <;> exact h) rfl (listed' := #[true, true, true, true, true, true, true, true, false, false, false, false, false, false, false, false, false, false, false, false, false, false, false, false, false, false, false, false, false, false, false, false, false, false, false, false]) rfl fun a hA => ?_
    refine apq hA 8 rfl (by kernel_rfl) (by intro c a d v w h; cases d <;> exact h) (fun w => (q_pick_t rfl rfl)) rfl (listed' := #[true, true, true, true, true, true, true, true, true, false, false, false, false, false, false, false, false, false, false, false, false, false, false, false, false, false, false, false, false, false, false, false, false, false, false, false]) rfl fun a hA => ?_
    refine apq hA 9 rfl (by kernel_rfl) (by intro c a d v w h; cases d <;> exact h) (fun w => (q_move rfl)) rfl (listed' := #[true, true, true, true, true, true, true, true, true, true, false, false, false, false, false, false, false, false, false, false, false, false, false, false, false, false, false, false, false, false, false, false, false, false, false, false]) rfl fun a hA => ?_
    refine apgs hA 10 rfl (by kernel_rfl) rfl rfl rfl (by intro c a d v w h; cases d <;> exact h) rfl (listed' := #[true, true, true, true, true, true, true, true, true, true, true, false, false, false, false, false, false, false, false, false, false, false, false, false, false, false, false, false, false, false, false, false, false, false, false, false]) rfl fun a hA => ?_
    refine apgs hA 11 rfl (by kernel_rfl) rfl rfl rfl (by intro c a d v w h; cases d <;> exact h) rfl (listed' := #[true, true, true, true, true, true, true, true, true, true, true, true, false, false, false, false, false, false, false, false, false, false, false, false, false, false, false, false, false, false, false, false, false, false, false, false]) rfl fun a hA => ?_
    refine apgs hA 12 rfl (by kernel_rfl) rfl rfl rfl (by intro c a d v w h; cases d <;> exact h) rfl (listed' := #[true, true, true, true, true, true, true, true, true, true, true, true, true, false, false, false, false, false, false, false, false, false, false, false, false, false, false, false, false, false, false, false, false, false, false, false]) rfl fun a hA => ?_
    refine apgs hA 13 rfl (by kernel_rfl) rfl rfl rfl (by intro c a d v w h; cases d <;> exact h) rfl (listed' := #[true, true, true, true, true, true, true, true, true, true, true, true, true, true, false, false, false, false, false, false, false, false, false, false, false, false, false, false, false, false, false, false, false, false, false, false]) rfl fun a hA => ?_
    refine apgs hA 14 rfl (by kernel_rfl) rfl rfl rfl (by intro c a d v w h; cases d <;> exact h) rfl (listed' := #[true, true, true, true, true, true, true, true, true, true, true, true, true, true, true, false, false, false, false, false, false, false, false, false, false, false, false, false, false, false, false, false, false, false, false, false]) rfl fun a hA => ?_
    refine apgs hA 15 rfl (by kernel_rfl) rfl rfl rfl (by intro c a d v w h; cases d <;> exact h) rfl (listed' := #[true, true, true, true, true, true, true, true, true, true, true, true, true, true, true, true, false, false, false, false, false, false, false, false, false, false, false, false, false, false, false, false, false, false, false, false]) rfl fun a hA => ?_
    refine apq hA 16 rfl (by kernel_rfl) (by intro c a d v w h; cases d <;> exact h) (fun w => (q_pick_t rfl rfl)) rfl (listed' := #[true, true, true, true, true, true, true, true, true, true, true, true, true, true, true, true, true, false, false, false, false, false, false, false, false, false, false, false, false, false, false, false, false, false, false, false]) rfl fun a hA => ?_
    refine apq hA 17 rfl (by kernel_rfl) (by intro c a d v w h; cases d <;> exact h) (fun w => (q_move rfl)) rfl (listed' := #[true, true, true, true, true, true, true, true, true, true, true, true, true, true, true, true, true, true, false, false, false, false, false, false, false, false, false, false, false, false, false, false, false, false, false, false]) rfl fun a hA => ?_
    refine apgs hA 18 rfl (by kernel_rfl) rfl rfl rfl (by intro c a d v w h; cases d <;> exact h) rfl (listed' := #[true, true, true, true, true, true, true, true, true, true, true, true, true, true, true, true, true, true, true, false, false, false, false, false, false, false, false, false, false, false, false, false, false, false, false, false]) rfl fun a hA => ?_
    refine apgs hA 19 rfl (by kernel_rfl) rfl rfl rfl (by intro c a d v w h; cases d <;> exact h) rfl (listed' := #[true, true, true, true, true, true, true, true, true, true, true, true, true, true, true, true, true, true, true, true, false, false, false, false, false, false, false, false, false, false, false, false, false, false, false, false]) rfl fun a hA => ?_
    refine apgs hA 20 rfl (by kernel_rfl) rfl rfl rfl (by intro c a d v w h; cases d <;> exact h) rfl (listed' := #[true, true, true, true, true, true, true, true, true, true, true, true, true, true, true, true, true, true, true, true, true, false, false, false, false, false, false, false, false, false, false, false, false, false, false, false]) rfl fun a hA => ?_
    refine apgs hA 21 rfl (by kernel_rfl) rfl rfl rfl (by intro c a d v w h; cases d <;> exact h) rfl (listed' := #[true, true, true, true, true, true, true, true, true, true, true, true, true, true, true, true, true, true, true, true, true, true, false, false, false, false, false, false, false, false, false, false, false, false, false, false]) rfl fun a hA => ?_
    refine apgs hA 22 rfl (by kernel_rfl) rfl rfl rfl (by intro c a d v w h; cases d <;> exact h) rfl (listed' := #[true, true, true, true, true, true, true, true, true, true, true, true, true, true, true, true, true, true, true, true, true, true, true, false, false, false, false, false, false, false, false, false, false, false, false, false]) rfl fun a hA => ?_
    refine apq hA 23 rfl (by kernel_rfl) (by intro c a d v w h; cases d <;> exact h) (fun w => (q_pick_t rfl rfl)) rfl (listed' := #[true, true, true, true, true, true, true, true, true, true, true, true, true, true, true, true, true, true, true, true, true, true, true, true, false, false, false, false, false, false, false, false, false, false, false, false]) rfl fun a hA => ?_
    refine apq hA 24 rfl (by kernel_rfl) (by intro c a d v w h; cases d <;> exact h) (fun w => (q_move rfl)) rfl (listed' := #[true, true, true, true, true, true, true, true, true, true, true, true, true, true, true, true, true, true, true, true, true, true, true, true, true, false, false, false, false, false, false, false, false, false, false, false]) rfl fun a hA => ?_
    refine apgs hA 25 rfl (by kernel_rfl) rfl rfl rfl (by intro c a d v w h; cases d <;> exact h) rfl (listed' := #[true, true, true, true, true, true, true, true, true, true, true, true, true, true, true, true, true, true, true, true, true, true, true, true, true, true, false, false, false, false, false, false, false, false, false, false]) rfl fun a hA => ?_
    refine apgs hA 26 rfl (by kernel_rfl) rfl rfl rfl (by intro c a d v w h; cases d <;> exact h) rfl (listed' := #[true, true, true, true, true, true, true, true, true, true, true, true, true, true, true, true, true, true, true, true, true, true, true, true, true, true, true, false, false, false, false, false, false, false, false, false]) rfl fun a hA => ?_
    refine apgs hA 27 rfl (by kernel_rfl) rfl rfl rfl (by intro c a d v w h; cases d <;> exact h) rfl (listed' := #[true, true, true, true, true, true, true, true, true, true, true, true, true, true, true, true, true, true, true, true, true, true, true, true, true, true, true, true, false, false, false, false, false, false, false, false]) rfl fun a hA => ?_
    refine apq hA 28 rfl (by kernel_rfl) (by intro c a d v w h; cases d <;> exact h) (fun w => (q_pick_t rfl rfl)) rfl (listed' := #[true, true, true, true, true, true, true, true, true, true, true, true, true, true, true, true, true, true, true, true, true, true, true, true, true, true, true, true, true, false, false, false, false, false, false, false]) rfl fun a hA => ?_
    refine apq hA 29 rfl (by kernel_rfl) (by intro c a d v w h; cases d <;> exact h) (fun w => (q_move rfl)) rfl (listed' := #[true, true, true, true, true, true, true, true, true, true, true, true, true, true, true, true, true, true, true, true, true, true, true, true, true, true, true, true, true, true, false, false, false, false, false, false]) rfl fun a hA => ?_
    refine apgs hA 30 rfl (by kernel_rfl) rfl rfl rfl (by intro c a d v w h; cases d <;> exact h) rfl (listed' := #[true, true, true, true, true, true, true, true, true, true, true, true, true, true, true, true, true, true, true, true, true, true, true, true, true, true, true, true, true, true, true, false, false, false, false, false]) rfl fun a hA => ?_
    refine apgs hA 31 rfl (by kernel_rfl) rfl rfl rfl (by intro c a d v w h; cases d <;> exact h) rfl (listed' := #[true, true, true, true, true, true, true, true, true, true, true, true, true, true, true, true, true, true, true, true, true, true, true, true, true, true, true, true, true, true, true, true, false, false, false, false]) rfl fun a hA => ?_
    refine apgs hA 32 rfl (by kernel_rfl) rfl rfl rfl (by intro c a d v w h; cases d <;> exact h) rfl (listed' := #[true, true, true, true, true, true, true, true, true, true, true, true, true, true, true, true, true, true, true, true, true, true, true, true, true, true, true, true, true, true, true, true, true, false, false, false]) rfl fun a hA => ?_
    refine apgs hA 33 rfl (by kernel_rfl) rfl rfl rfl (by intro c a d v w h; cases d <;> exact h) rfl (listed' := #[true, true, true, true, true, true, true, true, true, true, true, true, true, true, true, true, true, true, true, true, true, true, true, true, true, true, true, true, true, true, true, true, true, true, false, false]) rfl fun a hA => ?_
    refine apgs hA 34 rfl (by kernel_rfl) rfl rfl rfl (by intro c a d v w h; cases d <;> exact h) rfl (listed' := #[true, true, true, true, true, true, true, true, true, true, true, true, true, true, true, true, true, true, true, true, true, true, true, true, true, true, true, true, true, true, true, true, true, true, true, false]) rfl fun a hA => ?_
    refine apq hA 35 rfl (by kernel_rfl) (by intro c a d v w h; cases d <;> exact h) (fun w => (q_pick_t rfl rfl)) rfl (listed' := #[true, true, true, true, true, true, true, true, true, true, true, true, true, true, true, true, true, true, true, true, true, true, true, true, true, true, true, true, true, true, true, true, true, true, true, true]) rfl fun a hA => ?_
    refine a_end (by kernel_rfl) ?_ _
    refine hK3 _ _ ?_
    clear hK3
    replace hA := hA.sub (E' := [(44, _), (6, _), (3, _), (1, _), (2, _)]) ⟨rfl, rfl, rfl, rfl, rfl, trivial⟩
    refine cond_t hA rfl ?_
    refine wp_seq_k fun K4 hK4 => ?_
    refine wp_region_lit ?_
    refine sl hA (lo_call fn12 rfl (awake7_any (hg.mono0 hH))) rfl ?_
    rintro _ w ⟨rfl, hC⟩ a hA
    replace hH := HS.call0 hH hC
    clear hC
    refine sq hA (q_assign rfl) rfl fun a hA => ?_
    refine wpList_nil ?_
    refine hK4 _ _ ?_
    clear hK4
    replace hA := hA.sub (E' := [(6, _), (3, _), (1, _), (2, _)]) ⟨rfl, rfl, rfl, rfl, trivial⟩
    refine wp_ret ?_
    refine then_ret ?_
    refine post_ret hA (res_1 rfl hA rfl) ?_
    replace hH := hH.pick [] (Hs' := []) rfl
    exact ⟨_, rfl, rfl, hH⟩
  · skip
    refine apq hA 3 rfl (by kernel_rfl) (by intro c a d v w h; cases d <;> exact h) (fun w => (q_move rfl)) rfl (listed' := #[true, true, true, true, false, false, false, false, false, false, false, false, false, false, false, false, false, false, false, false, false, false, false, false, false, false, false, false, false, false, false, false, false, false, false, false]) rfl fun a hA => ?_
    refine apgq hA 4 rfl (by kernel_rfl) rfl rfl (by intro c a d v w h; cases d <;> exact h) (fun w => (q_move rfl)) rfl (listed' := #[true, true, true, true, true, false, false, false, false, false, false, false, false, false, false, false, false, false, false, false, false, false, false, false, false, false, false, false, false, false, false, false, false, false, false, false]) rfl fun a hA => ?_
    refine apgq hA 5 rfl (by kernel_rfl) rfl rfl (by intro c a d v w h; cases d <;> exact h) (fun w => (q_move rfl)) rfl (listed' := #[true, true, true, true, true, true, false, false, false, false, false, false, false, false, false, false, false, false, false, false, false, false, false, false, false, false, false, false, false, false, false, false, false, false, false, false]) rfl fun a hA => ?_
    refine agl hA 6 rfl (by kernel_rfl) rfl rfl (lo_call fn18 rfl (refright7_any _ _)) rfl (listed' := #[true, true, true, true, true, true, true, false, false, false, false, false, false, false, false, false, false, false, false, false, false, false, false, false, false, false, false, false, false, false, false, false, false, false, false, false]) rfl ?_
    rintro _ w ⟨rfl, hC⟩
    replace hH := HS.call0 hH hC
    clear hC
    have hS' := hH.pick [0] (Hs' := [_]) rfl
    replace hS := hS'; clear hS'
    refine ⟨fun _ _ => hS, ?_⟩
    intro a hA
    refine hA.spl (fun hs15 hA => ?_) (fun hs15 hA => ?_)
    · skip
      have hR : R7 n h := by assumption
      obtain ⟨n, rfl⟩ : ∃ m : Nat, n = m := ⟨n.toNat, by unfold R7 R5 at *; omega⟩
      obtain ⟨h, rfl⟩ : ∃ m : Nat, h = m := ⟨h.toNat, by unfold R7 R5 at *; omega⟩
      have hn5 := hR.1
      have hn1 := hR.1.1
      have hn2 := hR.1.2
      have hh6 : h ≤ 6 := by have := hR.2.2; omega
      have h64 := pow_le64 hh6
      have hp0 : 0 < 2 ^ h := Nat.pow_pos (by decide)
      refine apgq hA 7 rfl (by kernel_rfl) rfl rfl (by intro c a d v w h; cases d <;> exact h) (fun w => (q_not rfl)) rfl (listed' := #[true, true, true, true, true, true, true, true, false, false, false, false, false, false, false, false, false, false, false, false, false, false, false, false, false, false, false, false, false, false, false, false, false, false, false, false]) rfl fun a hA => ?_
      refine apq hA 8 rfl (by kernel_rfl) (by intro c a d v w h; cases d <;> exact h) (fun w => (q_pick_f rfl rfl)) rfl (listed' := #[true, true, true, true, true, true, true, true, true, false, false, false, false, false, false, false, false, false, false, false, false, false, false, false, false, false, false, false, false, false, false, false, false, false, false, false]) rfl fun a hA => ?_
      refine apq hA 9 rfl (by kernel_rfl) (by intro c a d v w h; cases d <;> exact h) (fun w => (q_move rfl)) rfl (listed' := #[true, true, true, true, true, true, true, true, true, true, false, false, false, false, false, false, false, false, false, false, false, false, false, false, false, false, false, false, false, false, false, false, false, false, false, false]) rfl fun a hA => ?_
      refine apgq hA 10 rfl (by kernel_rfl) rfl rfl (by intro c a d v w h; cases d <;> exact h) (fun w => (q_fld 1 Tryd.underlying27 rfl rfl ti25 rfl)) rfl (listed' := #[true, true, true, true, true, true, true, true, true, true, true, false, false, false, false, false, false, false, false, false, false, false, false, false, false, false, false, false, false, false, false, false, false, false, false, false]) rfl fun a hA => ?_
      refine agq hA 11 rfl (by kernel_rfl) rfl rfl (by intro c a d v w h; cases d <;> exact h) hS (fun w hH => (q_loadB hH 0 rfl (List.mem_singleton.2 rfl) Tryd.underlying25 rfl rfl rfl)) rfl (listed' := #[true, true, true, true, true, true, true, true, true, true, true, true, false, false, false, false, false, false, false, false, false, false, false, false, false, false, false, false, false, false, false, false, false, false, false, false]) rfl fun a hA => ?_
      refine apgq hA 12 rfl (by kernel_rfl) rfl rfl (by intro c a d v w h; cases d <;> exact h) (fun w => (q_len Tryd.underlying25 rfl (Rd.shp hua))) rfl (listed' := #[true, true, true, true, true, true, true, true, true, true, true, true, true, false, false, false, false, false, false, false, false, false, false, false, false, false, false, false, false, false, false, false, false, false, false, false]) rfl fun a hA => ?_
      refine apgq hA 13 rfl (by kernel_rfl) rfl rfl (by intro c a d v w h; cases d <;> exact h) (fun w => (q_move rfl)) rfl (listed' := #[true, true, true, true, true, true, true, true, true, true, true, true, true, true, false, false, false, false, false, false, false, false, false, false, false, false, false, false, false, false, false, false, false, false, false, false]) rfl fun a hA => ?_
      refine apgq hA 14 rfl (by kernel_rfl) rfl rfl (by intro c a d v w h; cases d <;> exact h) (fun w => (q_mulI (m := 2) rfl rfl (by omega))) rfl (listed' := #[true, true, true, true, true, true, true, true, true, true, true, true, true, true, true, false, false, false, false, false, false, false, false, false, false, false, false, false, false, false, false, false, false, false, false, false]) rfl fun a hA => ?_
      refine apgq hA 15 rfl (by kernel_rfl) rfl rfl (by intro c a d v w h; cases d <;> exact h) (fun w => (q_neqI rfl rfl)) rfl (listed' := #[true, true, true, true, true, true, true, true, true, true, true, true, true, true, true, true, false, false, false, false, false, false, false, false, false, false, false, false, false, false, false, false, false, false, false, false]) rfl fun a hA => ?_
      refine hA.spl (fun hs24 hA => ?_) (fun hs24 hA => ?_)
      · skip
        refine apq hA 16 rfl (by kernel_rfl) (by intro c a d v w h; cases d <;> exact h) (fun w => (q_pick_f rfl rfl)) rfl (listed' := #[true, true, true, true, true, true, true, true, true, true, true, true, true, true, true, true, true, false, false, false, false, false, false, false, false, false, false, false, false, false, false, false, false, false, false, false]) rfl fun a hA => ?_
        refine apq hA 17 rfl (by kernel_rfl) (by intro c a d v w h; cases d <;> exact h) (fun w => (q_move rfl)) rfl (listed' := #[true, true, true, true, true, true, true, true, true, true, true, true, true, true, true, true, true, true, false, false, false, false, false, false, false, false, false, false, false, false, false, false, false, false, false, false]) rfl fun a hA => ?_
        refine apgs hA 18 rfl (by kernel_rfl) rfl rfl rfl (by intro c a d v w h; cases d <;> exact h) rfl (listed' := #[true, true, true, true, true, true, true, true, true, true, true, true, true, true, true, true, true, true, true, false, false, false, false, false, false, false, false, false, false, false, false, false, false, false, false, false]) rfl fun a hA => ?_
        refine apgs hA 19 rfl (by kernel_rfl) rfl rfl rfl (by intro c a d v w h; cases d <;> exact h) rfl (listed' := #[true, true, true, true, true, true, true, true, true, true, true, true, true, true, true, true, true, true, true, true, false, false, false, false, false, false, false, false, false, false, false, false, false, false, false, false]) rfl fun a hA => ?_
        refine apgs hA 20 rfl (by kernel_rfl) rfl rfl rfl (by intro c a d v w h; cases d <;> exact h) rfl (listed' := #[true, true, true, true, true, true, true, true, true, true, true, true, true, true, true, true, true, true, true, true, true, false, false, false, false, false, false, false, false, false, false, false, false, false, false, false]) rfl fun a hA => ?_
        refine apgs hA 21 rfl (by kernel_rfl) rfl rfl rfl (by intro c a d v w h; cases d <;> exact h) rfl (listed' := #[true, true, true, true, true, true, true, true, true, true, true, true, true, true, true, true, true, true, true, true, true, true, false, false, false, false, false, false, false, false, false, false, false, false, false, false]) rfl fun a hA => ?_
        refine apgs hA 22 rfl (by kernel_rfl) rfl rfl rfl (by intro c a d v w h; cases d <;> exact h) rfl (listed' := #[true, true, true, true, true, true, true, true, true, true, true, true, true, true, true, true, true, true, true, true, true, true, true, false, false, false, false, false, false, false, false, false, false, false, false, false]) rfl fun a hA => ?_
        refine apq hA 23 rfl (by kernel_rfl) (by intro c a d v w h; cases d <;> exact h) (fun w => (q_pick_t rfl rfl)) rfl (listed' := #[true, true, true, true, true, true, true, true, true, true, true, true, true, true, true, true, true, true, true, true, true, true, true, true, false, false, false, false, false, false, false, false, false, false, false, false]) rfl fun a hA => ?_
        refine apq hA 24 rfl (by kernel_rfl) (by intro c a d v w h; cases d <;> exact h) (fun w => (q_move rfl)) rfl (listed' := #[true, true, true, true, true, true, true, true, true, true, true, true, true, true, true, true, true, true, true, true, true, true, true, true, true, false, false, false, false, false, false, false, false, false, false, false]) rfl fun a hA => ?_
        refine apgs hA 25 rfl (by kernel_rfl) rfl rfl rfl (by intro c a d v w h; cases d <;> exact h) rfl (listed' := #[true, true, true, true, true, true, true, true, true, true, true, true, true, true, true, true, true, true, true, true, true, true, true, true, true, true, false, false, false, false, false, false, false, false, false, false]) rfl fun a hA => ?_
        refine apgs hA 26 rfl (by kernel_rfl) rfl rfl rfl (by intro c a d v w h; cases d <;> exact h) rfl (listed' := #[true, true, true, true, true, true, true, true, true, true, true, true, true, true, true, true, true, true, true, true, true, true, true, true, true, true, true, false, false, false, false, false, false, false, false, false]) rfl fun a hA => ?_
        refine apgs hA 27 rfl (by kernel_rfl) rfl rfl rfl (by intro c a d v w h; cases d <;> exact h) rfl (listed' := #[true, true, true, true, true, true, true, true, true, true, true, true, true, true, true, true, true, true, true, true, true, true, true, true, true, true, true, true, false, false, false, false, false, false, false, false]) rfl fun a hA => ?_
        refine apq hA 28 rfl (by kernel_rfl) (by intro c a d v w h; cases d <;> exact h) (fun w => (q_pick_t rfl rfl)) rfl (listed' := #[true, true, true, true, true, true, true, true, true, true, true, true, true, true, true, true, true, true, true, true, true, true, true, true, true, true, true, true, true, false, false, false, false, false, false, false]) rfl fun a hA => ?_
        refine apq hA 29 rfl (by kernel_rfl) (by intro c a d v w h; cases d <;> exact h) (fun w => (q_move rfl)) rfl (listed' := #[true, true, true, true, true, true, true, true, true, true, true, true, true, true, true, true, true, true, true, true, true, true, true, true, true, true, true, true, true, true, false, false, false, false, false, false]) rfl fun a hA => ?_
        refine apgs hA 30 rfl (by kernel_rfl) rfl rfl rfl (by intro c a d v w h; cases d <;> exact h) rfl (listed' := #[true, true, true, true, true, true, true, true, true, true, true, true, true, true, true, true, true, true, true, true, true, true, true, true, true, true, true, true, true, true, true, false, false, false, false, false]) rfl fun a hA => ?_
        refine apgs hA 31 rfl (by kernel_rfl) rfl rfl rfl (by intro c a d v w h; cases d <;> exact h) rfl (listed' := #[true, true, true, true, true, true, true, true, true, true, true, true, true, true, true, true, true, true, true, true, true, true, true, true, true, true, true, true, true, true, true, true, false, false, false, false]) rfl fun a hA => ?_
        refine apgs hA 32 rfl (by kernel_rfl) rfl rfl rfl (by intro c a d v w h; cases d <;> exact h) rfl (listed' := #[true, true, true, true, true, true, true, true, true, true, true, true, true, true, true, true, true, true, true, true, true, true, true, true, true, true, true, true, true, true, true, true, true, false, false, false]) rfl fun a hA => ?_
        refine apgs hA 33 rfl (by kernel_rfl) rfl rfl rfl (by intro c a d v w h; cases d <;> exact h) rfl (listed' := #[true, true, true, true, true, true, true, true, true, true, true, true, true, true, true, true, true, true, true, true, true, true, true, true, true, true, true, true, true, true, true, true, true, true, false, false]) rfl fun a hA => ?_
        refine apgs hA 34 rfl (by kernel_rfl) rfl rfl rfl (by intro c a d v w h; cases d <;> exact h) rfl (listed' := #[true, true, true, true, true, true, true, true, true, true, true, true, true, true, true, true, true, true, true, true, true, true, true, true, true, true, true, true, true, true, true, true, true, true, true, false]) rfl fun a hA => ?_
        refine apq hA 35 rfl (by kernel_rfl) (by intro c a d v w h; cases d <;> exact h) (fun w => (q_pick_t rfl rfl)) rfl (listed' := #[true, true, true, true, true, true, true, true, true, true, true, true, true, true, true, true, true, true, true, true, true, true, true, true, true, true, true, true, true, true, true, true, true, true, true, true]) rfl fun a hA => ?_
        refine a_end (by kernel_rfl) ?_ _
        refine hK3 _ _ ?_
        clear hK3
        replace hA := hA.sub (E' := [(44, _), (6, _), (3, _), (1, _), (2, _)]) ⟨rfl, rfl, rfl, rfl, rfl, trivial⟩
        refine cond_t hA rfl ?_
        refine wp_seq_k fun K5 hK5 => ?_
        refine wp_region_lit ?_
        refine sl hA (lo_call fn12 rfl (awake7_any (hg.mono0 hH))) rfl ?_
        rintro _ w ⟨rfl, hC⟩ a hA
        replace hH := HS.call0 hH hC
        clear hC
        refine sq hA (q_assign rfl) rfl fun a hA => ?_
        refine wpList_nil ?_
        refine hK5 _ _ ?_
        clear hK5
        replace hA := hA.sub (E' := [(6, _), (3, _), (1, _), (2, _)]) ⟨rfl, rfl, rfl, rfl, trivial⟩
        refine wp_ret ?_
        refine then_ret ?_
        refine post_ret hA (res_1 rfl hA rfl) ?_
        replace hH := hH.pick [] (Hs' := []) rfl
        exact ⟨_, rfl, rfl, hH⟩
      · skip
        refine apq hA 16 rfl (by kernel_rfl) (by intro c a d v w h; cases d <;> exact h) (fun w => (q_pick_f rfl rfl)) rfl (listed' := #[true, true, true, true, true, true, true, true, true, true, true, true, true, true, true, true, true, false, false, false, false, false, false, false, false, false, false, false, false, false, false, false, false, false, false, false]) rfl fun a hA => ?_
        refine apq hA 17 rfl (by kernel_rfl) (by intro c a d v w h; cases d <;> exact h) (fun w => (q_move rfl)) rfl (listed' := #[true, true, true, true, true, true, true, true, true, true, true, true, true, true, true, true, true, true, false, false, false, false, false, false, false, false, false, false, false, false, false, false, false, false, false, false]) rfl fun a hA => ?_
        refine apgq hA 18 rfl (by kernel_rfl) rfl rfl (by intro c a d v w h; cases d <;> exact h) (fun w => (q_fld 2 Tryd.underlying27 rfl rfl ti25 rfl)) rfl (listed' := #[true, true, true, true, true, true, true, true, true, true, true, true, true, true, true, true, true, true, true, false, false, false, false, false, false, false, false, false, false, false, false, false, false, false, false, false]) rfl fun a hA => ?_
        refine agq hA 19 rfl (by kernel_rfl) rfl rfl (by intro c a d v w h; cases d <;> exact h) hS (fun w hH => (q_loadB hH 0 rfl (List.mem_singleton.2 rfl) Tryd.underlying25 rfl rfl rfl)) rfl (listed' := #[true, true, true, true, true, true, true, true, true, true, true, true, true, true, true, true, true, true, true, true, false, false, false, false, false, false, false, false, false, false, false, false, false, false, false, false]) rfl fun a hA => ?_
        refine apgq hA 20 rfl (by kernel_rfl) rfl rfl (by intro c a d v w h; cases d <;> exact h) (fun w => (q_len Tryd.underlying25 rfl (Rd.shp hxa))) rfl (listed' := #[true, true, true, true, true, true, true, true, true, true, true, true, true, true, true, true, true, true, true, true, true, false, false, false, false, false, false, false, false, false, false, false, false, false, false, false]) rfl fun a hA => ?_
        refine apgq hA 21 rfl (by kernel_rfl) rfl rfl (by intro c a d v w h; cases d <;> exact h) (fun w => (q_move rfl)) rfl (listed' := #[true, true, true, true, true, true, true, true, true, true, true, true, true, true, true, true, true, true, true, true, true, true, false, false, false, false, false, false, false, false, false, false, false, false, false, false]) rfl fun a hA => ?_
        refine apgq hA 22 rfl (by kernel_rfl) rfl rfl (by intro c a d v w h; cases d <;> exact h) (fun w => (q_neqI rfl rfl)) rfl (listed' := #[true, true, true, true, true, true, true, true, true, true, true, true, true, true, true, true, true, true, true, true, true, true, true, false, false, false, false, false, false, false, false, false, false, false, false, false]) rfl fun a hA => ?_
        refine hA.spl (fun hs31 hA => ?_) (fun hs31 hA => ?_)
        · skip
          refine apq hA 23 rfl (by kernel_rfl) (by intro c a d v w h; cases d <;> exact h) (fun w => (q_pick_f rfl rfl)) rfl (listed' := #[true, true, true, true, true, true, true, true, true, true, true, true, true, true, true, true, true, true, true, true, true, true, true, true, false, false, false, false, false, false, false, false, false, false, false, false]) rfl fun a hA => ?_
          refine apq hA 24 rfl (by kernel_rfl) (by intro c a d v w h; cases d <;> exact h) (fun w => (q_move rfl)) rfl (listed' := #[true, true, true, true, true, true, true, true, true, true, true, true, true, true, true, true, true, true, true, true, true, true, true, true, true, false, false, false, false, false, false, false, false, false, false, false]) rfl fun a hA => ?_
          refine apgs hA 25 rfl (by kernel_rfl) rfl rfl rfl (by intro c a d v w h; cases d <;> exact h) rfl (listed' := #[true, true, true, true, true, true, true, true, true, true, true, true, true, true, true, true, true, true, true, true, true, true, true, true, true, true, false, false, false, false, false, false, false, false, false, false]) rfl fun a hA => ?_
          refine apgs hA 26 rfl (by kernel_rfl) rfl rfl rfl (by intro c a d v w h; cases d <;> exact h) rfl (listed' := #[true, true, true, true, true, true, true, true, true, true, true, true, true, true, true, true, true, true, true, true, true, true, true, true, true, true, true, false, false, false, false, false, false, false, false, false]) rfl fun a hA => ?_
          refine apgs hA 27 rfl (by kernel_rfl) rfl rfl rfl (by intro c a d v w h; cases d <;> exact h) rfl (listed' := #[true, true, true, true, true, true, true, true, true, true, true, true, true, true, true, true, true, true, true, true, true, true, true, true, true, true, true, true, false, false, false, false, false, false, false, false]) rfl fun a hA => ?_
          refine apq hA 28 rfl (by kernel_rfl) (by intro c a d v w h; cases d <;> exact h) (fun w => (q_pick_t rfl rfl)) rfl (listed' := #[true, true, true, true, true, true, true, true, true, true, true, true, true, true, true, true, true, true, true, true, true, true, true, true, true, true, true, true, true, false, false, false, false, false, false, false]) rfl fun a hA => ?_
          refine apq hA 29 rfl (by kernel_rfl) (by intro c a d v w h; cases d <;> exact h) (fun w => (q_move rfl)) rfl (listed' := #[true, true, true, true, true, true, true, true, true, true, true, true, true, true, true, true, true, true, true, true, true, true, true, true, true, true, true, true, true, true, false, false, false, false, false, false]) rfl fun a hA => ?_
          refine apgs hA 30 rfl (by kernel_rfl) rfl rfl rfl (by intro c a d v w h; cases d <;> exact h) rfl (listed' := #[true, true, true, true, true, true, true, true, true, true, true, true, true, true, true, true, true, true, true, true, true, true, true, true, true, true, true, true, true, true, true, false, false, false, false, false]) rfl fun a hA => ?_
          refine apgs hA 31 rfl (by kernel_rfl) rfl rfl rfl (by intro c a d v w h; cases d <;> exact h) rfl (listed' := #[true, true, true, true, true, true, true, true, true, true, true, true, true, true, true, true, true, true, true, true, true, true, true, true, true, true, true, true, true, true, true, true, false, false, false, false]) rfl fun a hA => ?_
          refine apgs hA 32 rfl (by kernel_rfl) rfl rfl rfl (by intro c a d v w h; cases d <;> exact h) rfl (listed' := #[true, true, true, true, true, true, true, true, true, true, true, true, true, true, true, true, true, true, true, true, true, true, true, true, true, true, true, true, true, true, true, true, true, false, false, false]) rfl fun a hA => ?_
          refine apgs hA 33 rfl (by kernel_rfl) rfl rfl rfl (by intro c a d v w h; cases d <;> exact h) rfl (listed' := #[true, true, true, true, true, true, true, true, true, true, true, true, true, true, true, true, true, true, true, true, true, true, true, true, true, true, true, true, true, true, true, true, true, true, false, false]) rfl fun a hA => ?_
          refine apgs hA 34 rfl (by kernel_rfl) rfl rfl rfl (by intro c a d v w h; cases d <;> exact h) rfl (listed' := #[true, true, true, true, true, true, true, true, true, true, true, true, true, true, true, true, true, true, true, true, true, true, true, true, true, true, true, true, true, true, true, true, true, true, true, false]) rfl fun a hA => ?_
          refine apq hA 35 rfl (by kernel_rfl) (by intro c a d v w h; cases d <;> exact h) (fun w => (q_pick_t rfl rfl)) rfl (listed' := #[true, true, true, true, true, true, true, true, true, true, true, true, true, true, true, true, true, true, true, true, true, true, true, true, true, true, true, true, true, true, true, true, true, true, true, true]) rfl fun a hA => ?_
          refine a_end (by kernel_rfl) ?_ _
          refine hK3 _ _ ?_
          clear hK3
          replace hA := hA.sub (E' := [(44, _), (6, _), (3, _), (1, _), (2, _)]) ⟨rfl, rfl, rfl, rfl, rfl, trivial⟩
          refine cond_t hA rfl ?_
          refine wp_seq_k fun K6 hK6 => ?_
          refine wp_region_lit ?_
          refine sl hA (lo_call fn12 rfl (awake7_any (hg.mono0 hH))) rfl ?_
          rintro _ w ⟨rfl, hC⟩ a hA
          replace hH := HS.call0 hH hC
          clear hC
          refine sq hA (q_assign rfl) rfl fun a hA => ?_
          refine wpList_nil ?_
          refine hK6 _ _ ?_
          clear hK6
          replace hA := hA.sub (E' := [(6, _), (3, _), (1, _), (2, _)]) ⟨rfl, rfl, rfl, rfl, trivial⟩
          refine wp_ret ?_
          refine then_ret ?_
          refine post_ret hA (res_1 rfl hA rfl) ?_
          replace hH := hH.pick [] (Hs' := []) rfl
          exact ⟨_, rfl, rfl, hH⟩
        · skip
          refine apq hA 23 rfl (by kernel_rfl) (by intro c a d v w h; cases d <;> exact h) (fun w => (q_pick_f rfl rfl)) rfl (listed' := #[true, true, true, true, true, true, true, true, true, true, true, true, true, true, true, true, true, true, true, true, true, true, true, true, false, false, false, false, false, false, false, false, false, false, false, false]) rfl fun a hA => ?_
          refine apq hA 24 rfl (by kernel_rfl) (by intro c a d v w h; cases d <;> exact h) (fun w => (q_move rfl)) rfl (listed' := #[true, true, true, true, true, true, true, true, true, true, true, true, true, true, true, true, true, true, true, true, true, true, true, true, true, false, false, false, false, false, false, false, false, false, false, false]) rfl fun a hA => ?_
          refine apgq hA 25 rfl (by kernel_rfl) rfl rfl (by intro c a d v w h; cases d <;> exact h) (fun w => (q_fld 0 Tryd.underlying27 rfl rfl ti3 rfl)) rfl (listed' := #[true, true, true, true, true, true, true, true, true, true, true, true, true, true, true, true, true, true, true, true, true, true, true, true, true, true, false, false, false, false, false, false, false, false, false, false]) rfl fun a hA => ?_
          refine agq hA 26 rfl (by kernel_rfl) rfl rfl (by intro c a d v w h; cases d <;> exact h) hS (fun w hH => (q_loadB hH 0 rfl (List.mem_singleton.2 rfl) Tryd.underlying3 rfl rfl rfl)) rfl (listed' := #[true, true, true, true, true, true, true, true, true, true, true, true, true, true, true, true, true, true, true, true, true, true, true, true, true, true, true, false, false, false, false, false, false, false, false, false]) rfl fun a hA => ?_
          refine apgq hA 27 rfl (by kernel_rfl) rfl rfl (by intro c a d v w h; cases d <;> exact h) (fun w => (q_lssI (n := 0) rfl rfl)) rfl (listed' := #[true, true, true, true, true, true, true, true, true, true, true, true, true, true, true, true, true, true, true, true, true, true, true, true, true, true, true, true, false, false, false, false, false, false, false, false]) rfl fun a hA => ?_
          refine hA.spl (fun hs36 hA => ?_) (fun hs36 hA => ?_)
          · skip
            refine apq hA 28 rfl (by kernel_rfl) (by intro c a d v w h; cases d <;> exact h) (fun w => (q_pick_f rfl rfl)) rfl (listed' := #[true, true, true, true, true, true, true, true, true, true, true, true, true, true, true, true, true, true, true, true, true, true, true, true, true, true, true, true, true, false, false, false, false, false, false, false]) rfl fun a hA => ?_
            refine apq hA 29 rfl (by kernel_rfl) (by intro c a d v w h; cases d <;> exact h) (fun w => (q_move rfl)) rfl (listed' := #[true, true, true, true, true, true, true, true, true, true, true, true, true, true, true, true, true, true, true, true, true, true, true, true, true, true, true, true, true, true, false, false, false, false, false, false]) rfl fun a hA => ?_
            refine apgs hA 30 rfl (by kernel_rfl) rfl rfl rfl (by intro c a d v w h; cases d <;> exact h) rfl (listed' := #[true, true, true, true, true, true, true, true, true, true, true, true, true, true, true, true, true, true, true, true, true, true, true, true, true, true, true, true, true, true, true, false, false, false, false, false]) rfl fun a hA => ?_
            refine apgs hA 31 rfl (by kernel_rfl) rfl rfl rfl (by intro c a d v w h; cases d <;> exact h) rfl (listed' := #[true, true, true, true, true, true, true, true, true, true, true, true, true, true, true, true, true, true, true, true, true, true, true, true, true, true, true, true, true, true, true, true, false, false, false, false]) rfl fun a hA => ?_
            refine apgs hA 32 rfl (by kernel_rfl) rfl rfl rfl (by intro c a d v w h; cases d <;> exact h) rfl (listed' := #[true, true, true, true, true, true, true, true, true, true, true, true, true, true, true, true, true, true, true, true, true, true, true, true, true, true, true, true, true, true, true, true, true, false, false, false]) rfl fun a hA => ?_
            refine apgs hA 33 rfl (by kernel_rfl) rfl rfl rfl (by intro c a d v w h; cases d <;> exact h) rfl (listed' := #[true, true, true, true, true, true, true, true, true, true, true, true, true, true, true, true, true, true, true, true, true, true, true, true, true, true, true, true, true, true, true, true, true, true, false, false]) rfl fun a hA => ?_
            refine apgs hA 34 rfl (by kernel_rfl) rfl rfl rfl (by intro c a d v w h; cases d <;> exact h) rfl (listed' := #[true, true, true, true, true, true, true, true, true, true, true, true, true, true, true, true, true, true, true, true, true, true, true, true, true, true, true, true, true, true, true, true, true, true, true, false]) rfl fun a hA => ?_
            refine apq hA 35 rfl (by kernel_rfl) (by intro c a d v w h; cases d <;> exact h) (fun w => (q_pick_t rfl rfl)) rfl (listed' := #[true, true, true, true, true, true, true, true, true, true, true, true, true, true, true, true, true, true, true, true, true, true, true, true, true, true, true, true, true, true, true, true, true, true, true, true]) rfl fun a hA => ?_
            refine a_end (by kernel_rfl) ?_ _
            refine hK3 _ _ ?_
            clear hK3
            replace hA := hA.sub (E' := [(44, _), (6, _), (3, _), (1, _), (2, _)]) ⟨rfl, rfl, rfl, rfl, rfl, trivial⟩
            refine cond_t hA rfl ?_
            refine wp_seq_k fun K7 hK7 => ?_
            refine wp_region_lit ?_
            refine sl hA (lo_call fn12 rfl (awake7_any (hg.mono0 hH))) rfl ?_
            rintro _ w ⟨rfl, hC⟩ a hA
            replace hH := HS.call0 hH hC
            clear hC
            refine sq hA (q_assign rfl) rfl fun a hA => ?_
            refine wpList_nil ?_
            refine hK7 _ _ ?_
            clear hK7
            replace hA := hA.sub (E' := [(6, _), (3, _), (1, _), (2, _)]) ⟨rfl, rfl, rfl, rfl, trivial⟩
            refine wp_ret ?_
            refine then_ret ?_
            refine post_ret hA (res_1 rfl hA rfl) ?_
            replace hH := hH.pick [] (Hs' := []) rfl
            exact ⟨_, rfl, rfl, hH⟩
          · skip
            refine apq hA 28 rfl (by kernel_rfl) (by intro c a d v w h; cases d <;> exact h) (fun w => (q_pick_f rfl rfl)) rfl (listed' := #[true, true, true, true, true, true, true, true, true, true, true, true, true, true, true, true, true, true, true, true, true, true, true, true, true, true, true, true, true, false, false, false, false, false, false, false]) rfl fun a hA => ?_
            refine apq hA 29 rfl (by kernel_rfl) (by intro c a d v w h; cases d <;> exact h) (fun w => (q_move rfl)) rfl (listed' := #[true, true, true, true, true, true, true, true, true, true, true, true, true, true, true, true, true, true, true, true, true, true, true, true, true, true, true, true, true, true, false, false, false, false, false, false]) rfl fun a hA => ?_
            refine apgq hA 30 rfl (by kernel_rfl) rfl rfl (by intro c a d v w h; cases d <;> exact h) (fun w => (q_fld 0 Tryd.underlying27 rfl rfl ti3 rfl)) rfl (listed' := #[true, true, true, true, true, true, true, true, true, true, true, true, true, true, true, true, true, true, true, true, true, true, true, true, true, true, true, true, true, true, true, false, false, false, false, false]) rfl fun a hA => ?_
            refine agq hA 31 rfl (by kernel_rfl) rfl rfl (by intro c a d v w h; cases d <;> exact h) hS (fun w hH => (q_loadB hH 0 rfl (List.mem_singleton.2 rfl) Tryd.underlying3 rfl rfl rfl)) rfl (listed' := #[true, true, true, true, true, true, true, true, true, true, true, true, true, true, true, true, true, true, true, true, true, true, true, true, true, true, true, true, true, true, true, true, false, false, false, false]) rfl fun a hA => ?_
            refine apgq hA 32 rfl (by kernel_rfl) rfl rfl (by intro c a d v w h; cases d <;> exact h) (fun w => (q_move rfl)) rfl (listed' := #[true, true, true, true, true, true, true, true, true, true, true, true, true, true, true, true, true, true, true, true, true, true, true, true, true, true, true, true, true, true, true, true, true, false, false, false]) rfl fun a hA => ?_
            refine apgq hA 33 rfl (by kernel_rfl) rfl rfl (by intro c a d v w h; cases d <;> exact h) (fun w => (q_shlI (m := 1) (n := h) ((2 ^ h : Nat) : Int) rfl rfl (by omega) (by push_cast; rfl) (by omega))) rfl (listed' := #[true, true, true, true, true, true, true, true, true, true, true, true, true, true, true, true, true, true, true, true, true, true, true, true, true, true, true, true, true, true, true, true, true, true, false, false]) rfl fun a hA => ?_
            rw [Int.one_mul] at hA
            refine apgq hA 34 rfl (by kernel_rfl) rfl rfl (by intro c a d v w h; cases d <;> exact h) (fun w => (q_geqI rfl rfl)) rfl (listed' := #[true, true, true, true, true, true, true, true, true, true, true, true, true, true, true, true, true, true, true, true, true, true, true, true, true, true, true, true, true, true, true, true, true, true, true, false]) rfl fun a hA => ?_
            refine hA.spl (fun hs43 hA => ?_) (fun hs43 hA => ?_)
            · skip
              refine apq hA 35 rfl (by kernel_rfl) (by intro c a d v w h; cases d <;> exact h) (fun w => (q_pick_f rfl rfl)) rfl (listed' := #[true, true, true, true, true, true, true, true, true, true, true, true, true, true, true, true, true, true, true, true, true, true, true, true, true, true, true, true, true, true, true, true, true, true, true, true]) rfl fun a hA => ?_
              refine a_end (by kernel_rfl) ?_ _
              refine hK3 _ _ ?_
              clear hK3
              replace hA := hA.sub (E' := [(44, _), (6, _), (3, _), (1, _), (2, _)]) ⟨rfl, rfl, rfl, rfl, rfl, trivial⟩
              refine cond_t hA rfl ?_
              refine wp_seq_k fun K8 hK8 => ?_
              refine wp_region_lit ?_
              refine sl hA (lo_call fn12 rfl (awake7_any (hg.mono0 hH))) rfl ?_
              rintro _ w ⟨rfl, hC⟩ a hA
              replace hH := HS.call0 hH hC
              clear hC
              refine sq hA (q_assign rfl) rfl fun a hA => ?_
              refine wpList_nil ?_
              refine hK8 _ _ ?_
              clear hK8
              replace hA := hA.sub (E' := [(6, _), (3, _), (1, _), (2, _)]) ⟨rfl, rfl, rfl, rfl, trivial⟩
              refine wp_ret ?_
              refine then_ret ?_
              refine post_ret hA (res_1 rfl hA rfl) ?_
              replace hH := hH.pick [] (Hs' := []) rfl
              exact ⟨_, rfl, rfl, hH⟩
            · skip
              obtain ⟨m, rfl⟩ : ∃ m : Nat, ix = m := ⟨ix.toNat, by omega⟩
              have hEl := encK_len hi9 hdA hdB
              have hDe := decK_enc (n := n) (h := h) (i := m) (by omega) hh6 hdA hdB (by omega) (by omega)
              refine apq hA 35 rfl (by kernel_rfl) (by intro c a d v w h; cases d <;> exact h) (fun w => (q_pick_f rfl rfl)) rfl (listed' := #[true, true, true, true, true, true, true, true, true, true, true, true, true, true, true, true, true, true, true, true, true, true, true, true, true, true, true, true, true, true, true, true, true, true, true, true]) rfl fun a hA => ?_
              refine a_end (by kernel_rfl) ?_ _
              refine hK3 _ _ ?_
              clear hK3
              replace hA := hA.sub (E' := [(44, _), (6, _), (3, _), (1, _), (2, _)]) ⟨rfl, rfl, rfl, rfl, rfl, trivial⟩
              refine cond_f hA rfl ?_
              refine wp_skip ?_
              refine hK2 _ _ ?_
              clear hK2
              replace hA := hA.sub (E' := [(6, _), (3, _), (1, _), (2, _)]) ⟨rfl, rfl, rfl, rfl, trivial⟩
              refine wp_seq_k fun K9 hK9 => ?_
              refine wp_region_lit ?_
              refine sq hA (q_loadW hH 0 rfl Tryd.underlying27 rfl ti27 rfl (by first | omega | (simp; done) | (simp; omega) | (rw [List.length_map]; assumption) | assumption | rfl | (simp [*]; done) | (simp [*]; omega))) rfl fun a hA => ?_
              refine sl hA (lo_call fn15 rfl (copy7_any _ _ _ _ _ (by first | assumption | exact Dg.nil) (by first | assumption | exact Dg.nil) (hH.rd hua) (hH.rd hxa) (by first | omega | (simp; done) | (simp; omega)) (by first | omega | (simp; done) | (simp; omega)))) rfl ?_
              rintro _ w ⟨v_ot48, v_pt48, N_ot48, N_pt48, rfl, hOo_t48, hOp_t48, hC⟩ a hA
              replace hH := HS.call0 hH hC
              clear hC
              refine sl hA (lo_call fn31 rfl (enc7_any _ _ _ _ _ (by first | assumption | exact Dg.nil) (by first | assumption | exact Dg.nil) (Own.rd0 hOo_t48 hH 0 rfl) (Own.rd0 hOp_t48 hH 1 rfl) (by first | omega | (simp; done) | (simp; omega)) (by first | omega | (simp; done) | (simp; omega)) (by omega))) rfl ?_
              rintro _ w ⟨v_t49, N_t49, rfl, hO_t49, hC⟩ a hA
              replace hH := HS.call0 hH hC
              clear hC
              refine sq hA (q_move rfl) rfl fun a hA => ?_
              refine sq hA (q_move rfl) rfl fun a hA => ?_
              refine sl hA (lo_call fn28 rfl (dec7_g _ _ (Own.rd0 hO_t49 hH 0 rfl) (by first | omega | (simp; done) | (simp; omega)) n h hR (D := ((m, A, B), 0)) hDe.symm)) rfl ?_
              rintro _ w ⟨v_ot52, v_pt52, N_ot52, N_pt52, rfl, hOo_t52, hOp_t52, hC⟩ a hA
              replace hH := HS.call0 hH hC
              clear hC
              refine sq hA (q_move rfl) rfl fun a hA => ?_
              refine sq hA (q_extract rfl rfl) rfl fun a hA => ?_
              refine sq hA (q_extract rfl rfl) rfl fun a hA => ?_
              refine sl hA (lo_allocA hH ti27) rfl ?_
              clear hH; rintro _ w ⟨b_t7, rfl, hH⟩ a hA
              refine s0 hA (lo_storeAm hH ti27 rfl rfl (rfl) (rfl) (ones_cons rfl (ones_cons (Own.one hOo_t52) (ones_cons (Own.one hOp_t52) ones_nil)))) ?_
              clear hH; rintro _ w hH
              refine sq hA (q_assign rfl) rfl fun a hA => ?_
              refine wpList_nil ?_
              refine hK9 _ _ ?_
              clear hK9
              replace hA := hA.sub (E' := [(8, _), (7, _), (6, _), (3, _)]) ⟨rfl, rfl, rfl, rfl, trivial⟩
              refine wp_seq_k fun K10 hK10 => ?_
              refine wp_region_lit ?_
              refine sq hA (q_move rfl) rfl fun a hA => ?_
              refine sq hA (q_eqlI (n := 0) rfl rfl) rfl fun a hA => ?_
              replace hA := hA.decT (by first | rfl | omega | assumption | (simp; done) | (simp [*]; done))
              refine sq hA (q_move rfl) rfl fun a hA => ?_
              refine gq hA rfl rfl (q_loadW hH 0 rfl Tryd.underlying27 rfl ti27 rfl (by first | omega | (simp; done) | (simp; omega) | (rw [List.length_map]; assumption) | assumption | rfl | (simp [*]; done) | (simp [*]; omega))) rfl fun a hA => ?_
              refine gq hA rfl rfl (q_loadW hH 6 rfl Tryd.underlying27 rfl ti27 rfl (by first | omega | (simp; done) | (simp; omega) | (rw [List.length_map]; assumption) | assumption | rfl | (simp [*]; done) | (simp [*]; omega))) rfl fun a hA => ?_
              refine gl hA rfl rfl (lo_call fn27 rfl (same7_any _ _ _ _ _ (by first | assumption | exact Dg.nil) (by first | assumption | exact Dg.nil) (Own.rd0 hOo_t52 hH 1 rfl) (Own.rd0 hOp_t52 hH 2 rfl) (by first | omega | (simp; done) | (simp; omega)) (by first | omega | (simp; done) | (simp; omega)) _ _ _ _ _ (by first | assumption | exact Dg.nil) (by first | assumption | exact Dg.nil) (hH.rd hua) (hH.rd hxa) (by first | omega | (simp; done) | (simp; omega)) (by first | omega | (simp; done) | (simp; omega)))) rfl ?_
              rintro _ w ⟨rfl, hC⟩ a hA
              replace hH := HS.call0 hH hC
              clear hC
              replace hA := hA.decT (by exact ⟨rfl, rfl, rfl⟩)
              refine sq hA (q_pick_t rfl rfl) rfl fun a hA => ?_
              refine sq hA (q_move rfl) rfl fun a hA => ?_
              refine gl hA rfl rfl (lo_call fn12 rfl (awake7_any (hg.mono0 hH))) rfl ?_
              rintro _ w ⟨rfl, hC⟩ a hA
              replace hH := HS.call0 hH hC
              clear hC
              refine sq hA (q_pick_t rfl rfl) rfl fun a hA => ?_
              refine sq hA (q_assign rfl) rfl fun a hA => ?_
              refine wpList_nil ?_
              refine hK10 _ _ ?_
              clear hK10
              replace hA := hA.sub (E' := [(6, _)]) ⟨rfl, trivial⟩
              refine wp_ret ?_
              refine post_ret hA (res_1 rfl hA rfl) ?_
              replace hH := hH.pick [] (Hs' := []) rfl
              exact ⟨_, rfl, rfl, hH⟩
    · skip
      refine apgq hA 7 rfl (by kernel_rfl) rfl rfl (by intro c a d v w h; cases d <;> exact h) (fun w => (q_not rfl)) rfl (listed' := #[true, true, true, true, true, true, true, true, false, false, false, false, false, false, false, false, false, false, false, false, false, false, false, false, false, false, false, false, false, false, false, false, false, false, false, false]) rfl fun a hA => ?_
      refine apq hA 8 rfl (by kernel_rfl) (by intro c a d v w h; cases d <;> exact h) (fun w => (q_pick_f rfl rfl)) rfl (listed' := #[true, true, true, true, true, true, true, true, true, false, false, false, false, false, false, false, false, false, false, false, false, false, false, false, false, false, false, false, false, false, false, false, false, false, false, false]) rfl fun a hA => ?_
      refine apq hA 9 rfl (by kernel_rfl) (by intro c a d v w h; cases d <;> exact h) (fun w => (q_move rfl)) rfl (listed' := #[true, true, true, true, true, true, true, true, true, true, false, false, false, false, false, false, false, false, false, false, false, false, false, false, false, false, false, false, false, false, false, false, false, false, false, false]) rfl fun a hA => ?_
      refine apgs hA 10 rfl (by kernel_rfl) rfl rfl rfl (by intro c a d v w h; cases d <;> exact h) rfl (listed' := #[true, true, true, true, true, true, true, true, true, true, true, false, false, false, false, false, false, false, false, false, false, false, false, false, false, false, false, false, false, false, false, false, false, false, false, false]) rfl fun a hA => ?_
      refine apgs hA 11 rfl (by kernel_rfl) rfl rfl rfl (by intro c a d v w h; cases d <;> exact h) rfl (listed' := #[true, true, true, true, true, true, true, true, true, true, true, true, false, false, false, false, false, false, false, false, false, false, false, false, false, false, false, false, false, false, false, false, false, false, false, false]) rfl fun a hA => ?_
      refine apgs hA 12 rfl (by kernel_rfl) rfl rfl rfl (by intro c a d v w h; cases d <;> exact h) rfl (listed' := #[true, true, true, true, true, true, true, true, true, true, true, true, true, false, false, false, false, false, false, false, false, false, false, false, false, false, false, false, false, false, false, false, false, false, false, false]) rfl fun a hA => ?_
      refine apgs hA 13 rfl (by kernel_rfl) rfl rfl rfl (by intro c a d v w h; cases d <;> exact h) rfl (listed' := #[true, true, true, true, true, true, true, true, true, true, true, true, true, true, false, false, false, false, false, false, false, false, false, false, false, false, false, false, false, false, false, false, false, false, false, false]) rfl fun a hA => ?_
      refine apgs hA 14 rfl (by kernel_rfl) rfl rfl rfl (by intro c a d v w h; cases d <;> exact h) rfl (listed' := #[true, true, true, true, true, true, true, true, true, true, true, true, true, true, true, false, false, false, false, false, false, false, false, false, false, false, false, false, false, false, false, false, false, false, false, false]) rfl fun a hA => ?_
      refine apgs hA 15 rfl (by kernel_rfl) rfl rfl rfl (by intro c a d v w h; cases d <;> exact h) rfl (listed' := #[true, true, true, true, true, true, true, true, true, true, true, true, true, true, true, true, false, false, false, false, false, false, false, false, false, false, false, false, false, false, false, false, false, false, false, false]) rfl fun a hA => ?_
      refine apq hA 16 rfl (by kernel_rfl) (by intro c a d v w h; cases d <;> exact h) (fun w => (q_pick_t rfl rfl)) rfl (listed' := #[true, true, true, true, true, true, true, true, true, true, true, true, true, true, true, true, true, false, false, false, false, false, false, false, false, false, false, false, false, false, false, false, false, false, false, false]) rfl fun a hA => ?_
      refine apq hA 17 rfl (by kernel_rfl) (by intro c a d v w h; cases d <;> exact h) (fun w => (q_move rfl)) rfl (listed' := #[true, true, true, true, true, true, true, true, true, true, true, true, true, true, true, true, true, true, false, false, false, false, false, false, false, false, false, false, false, false, false, false, false, false, false, false]) rfl fun a hA => ?_
      refine apgs hA 18 rfl (by kernel_rfl) rfl rfl rfl (by intro c a d v w h; cases d <;> exact h) rfl (listed' := #[true, true, true, true, true, true, true, true, true, true, true, true, true, true, true, true, true, true, true, false, false, false, false, false, false, false, false, false, false, false, false, false, false, false, false, false]) rfl fun a hA => ?_
      refine apgs hA 19 rfl (by kernel_rfl) rfl rfl rfl (by intro c a d v w h; cases d <;> exact h) rfl (listed' := #[true, true, true, true, true, true, true, true, true, true, true, true, true, true, true, true, true, true, true, true, false, false, false, false, false, false, false, false, false, false, false, false, false, false, false, false]) rfl fun a hA => ?_
      refine apgs hA 20 rfl (by kernel_rfl) rfl rfl rfl (by intro c a d v w h; cases d <;> exact h) rfl (listed' := #[true, true, true, true, true, true, true, true, true, true, true, true, true, true, true, true, true, true, true, true, true, false, false, false, false, false, false, false, false, false, false, false, false, false, false, false]) rfl fun a hA => ?_
      refine apgs hA 21 rfl (by kernel_rfl) rfl rfl rfl (by intro c a d v w h; cases d <;> exact h) rfl (listed' := #[true, true, true, true, true, true, true, true, true, true, true, true, true, true, true, true, true, true, true, true, true, true, false, false, false, false, false, false, false, false, false, false, false, false, false, false]) rfl fun a hA => ?_
      refine apgs hA 22 rfl (by kernel_rfl) rfl rfl rfl (by intro c a d v w h; cases d <;> exact h) rfl (listed' := #[true, true, true, true, true, true, true, true, true, true, true, true, true, true, true, true, true, true, true, true, true, true, true, false, false, false, false, false, false, false, false, false, false, false, false, false]) rfl fun a hA => ?_
      refine apq hA 23 rfl (by kernel_rfl) (by intro c a d v w h; cases d <;> exact h) (fun w => (q_pick_t rfl rfl)) rfl (listed' := #[true, true, true, true, true, true, true, true, true, true, true, true, true, true, true, true, true, true, true, true, true, true, true, true, false, false, false, false, false, false, false, false, false, false, false, false]) rfl fun a hA => ?_
      refine apq hA 24 rfl (by kernel_rfl) (by intro c a d v w h; cases d <;> exact h) (fun w => (q_move rfl)) rfl (listed' := #[true, true, true, true, true, true, true, true, true, true, true, true, true, true, true, true, true, true, true, true, true, true, true, true, true, false, false, false, false, false, false, false, false, false, false, false]) rfl fun a hA => ?_
      refine apgs hA 25 rfl (by kernel_rfl) rfl rfl rfl (by intro c a d v w h; cases d <;> exact h) rfl (listed' := #[true, true, true, true, true, true, true, true, true, true, true, true, true, true, true, true, true, true, true, true, true, true, true, true, true, true, false, false, false, false, false, false, false, false, false, false]) rfl fun a hA => ?_
      refine apgs hA 26 rfl (by kernel_rfl) rfl rfl rfl (by intro c a d v w h; cases d <;> exact h) rfl (listed' := #[true, true, true, true, true, true, true, true, true, true, true, true, true, true, true, true, true, true, true, true, true, true, true, true, true, true, true, false, false, false, false, false, false, false, false, false]) rfl fun a hA => ?_
      refine apgs hA 27 rfl (by kernel_rfl) rfl rfl rfl (by intro c a d v w h; cases d <;> exact h) rfl (listed' := #[true, true, true, true, true, true, true, true, true, true, true, true, true, true, true, true, true, true, true, true, true, true, true, true, true, true, true, true, false, false, false, false, false, false, false, false]) rfl fun a hA => ?_
      refine apq hA 28 rfl (by kernel_rfl) (by intro c a d v w h; cases d <;> exact h) (fun w => (q_pick_t rfl rfl)) rfl (listed' := #[true, true, true, true, true, true, true, true, true, true, true, true, true, true, true, true, true, true, true, true, true, true, true, true, true, true, true, true, true, false, false, false, false, false, false, false]) rfl fun a hA => ?_
      refine apq hA 29 rfl (by kernel_rfl) (by intro c a d v w h; cases d <;> exact h) (fun w => (q_move rfl)) rfl (listed' := #[true, true, true, true, true, true, true, true, true, true, true, true, true, true, true, true, true, true, true, true, true, true, true, true, true, true, true, true, true, true, false, false, false, false, false, false]) rfl fun a hA => ?_
      refine apgs hA 30 rfl (by kernel_rfl) rfl rfl rfl (by intro c a d v w h; cases d <;> exact h) rfl (listed' := #[true, true, true, true, true, true, true, true, true, true, true, true, true, true, true, true, true, true, true, true, true, true, true, true, true, true, true, true, true, true, true, false, false, false, false, false]) rfl fun a hA => ?_
      refine apgs hA 31 rfl (by kernel_rfl) rfl rfl rfl (by intro c a d v w h; cases d <;> exact h) rfl (listed' := #[true, true, true, true, true, true, true, true, true, true, true, true, true, true, true, true, true, true, true, true, true, true, true, true, true, true, true, true, true, true, true, true, false, false, false, false]) rfl fun a hA => ?_
      refine apgs hA 32 rfl (by kernel_rfl) rfl rfl rfl (by intro c a d v w h; cases d <;> exact h) rfl (listed' := #[true, true, true, true, true, true, true, true, true, true, true, true, true, true, true, true, true, true, true, true, true, true, true, true, true, true, true, true, true, true, true, true, true, false, false, false]) rfl fun a hA => ?_
      refine apgs hA 33 rfl (by kernel_rfl) rfl rfl rfl (by intro c a d v w h; cases d <;> exact h) rfl (listed' := #[true, true, true, true, true, true, true, true, true, true, true, true, true, true, true, true, true, true, true, true, true, true, true, true, true, true, true, true, true, true, true, true, true, true, false, false]) rfl fun a hA => ?_
      refine apgs hA 34 rfl (by kernel_rfl) rfl rfl rfl (by intro c a d v w h; cases d <;> exact h) rfl (listed' := #[true, true, true, true, true, true, true, true, true, true, true, true, true, true, true, true, true, true, true, true, true, true, true, true, true, true, true, true, true, true, true, true, true, true, true, false]) rfl fun a hA => ?_
      refine apq hA 35 rfl (by kernel_rfl) (by intro c a d v w h; cases d <;> exact h) (fun w => (q_pick_t rfl rfl)) rfl (listed' := #[true, true, true, true, true, true, true, true, true, true, true, true, true, true, true, true, true, true, true, true, true, true, true, true, true, true, true, true, true, true, true, true, true, true, true, true]) rfl fun a hA => ?_
      refine a_end (by kernel_rfl) ?_ _
      refine hK3 _ _ ?_
      clear hK3
      replace hA := hA.sub (E' := [(44, _), (6, _), (3, _), (1, _), (2, _)]) ⟨rfl, rfl, rfl, rfl, rfl, trivial⟩
      refine cond_t hA rfl ?_
      refine wp_seq_k fun K11 hK11 => ?_
      refine wp_region_lit ?_
      refine sl hA (lo_call fn12 rfl (awake7_any (hg.mono0 hH))) rfl ?_
      rintro _ w ⟨rfl, hC⟩ a hA
      replace hH := HS.call0 hH hC
      clear hC
      refine sq hA (q_assign rfl) rfl fun a hA => ?_
      refine wpList_nil ?_
      refine hK11 _ _ ?_
      clear hK11
      replace hA := hA.sub (E' := [(6, _), (3, _), (1, _), (2, _)]) ⟨rfl, rfl, rfl, rfl, trivial⟩
      refine wp_ret ?_
      refine then_ret ?_
      refine post_ret hA (res_1 rfl hA rfl) ?_
      replace hH := hH.pick [] (Hs' := []) rfl
      exact ⟨_, rfl, rfl, hH⟩

end Go.Proofs.YtipjpbfledddaaaDoor
