/- Layer 20 (result): the laws ResultReads, ResultBack. -/
import Derived.Test.YtnnkgdijaekcfaaDoorIe
namespace Go.Proofs.YtnnkgdijaekcfaaDoor
open Go
set_option linter.unusedVariables false
set_option linter.unusedSimpArgs false
set_option maxRecDepth 100000

theorem dec20_g {w0 : World} (v : Value) (l : Bs) (hr : By [] w0 v l) (hl : l.length ≤ 1048576) (n h : Int) {D : (Bs × Bs × Nat × List Bs × List Bs) × Nat} (hD : D = decR n h l) : Calls Tryd.prog 31 #[v, I n, I h] w0 (Ret fun r w' => ∃ a b u x N0 N1 N2 N3, r = .tuple #[.agg #[a, b, I D.1.2.2.1, u, x], I D.2] ∧ Ow B8 5 a D.1.1 N0 ∧ Ow B8 5 b D.1.2.1 N1 ∧ OwD 24 u D.1.2.2.2.1 N2 ∧ OwD 24 x D.1.2.2.2.2 N3 ∧ HS [] w0 w' [N0, N1, N2, N3]) := by
  rw [hD]
  exact dec20_any v l hr hl n h
theorem refdec20_g {w0 : World} (v : Value) (l : Bs) (hr : By [] w0 v l) (hl : l.length ≤ 1048576) (n h : Int) {D : (Bs × Bs × Nat × List Bs × List Bs) × Nat} (hD : D = decR n h l) : Calls Tryd.prog 32 #[v, I n, I h] w0 (Ret fun r w' => ∃ a b u x N0 N1 N2 N3, r = .tuple #[.agg #[a, b, I D.1.2.2.1, u, x], I D.2] ∧ Ow B8 5 a D.1.1 N0 ∧ Ow B8 5 b D.1.2.1 N1 ∧ OwD 24 u D.1.2.2.2.1 N2 ∧ OwD 24 x D.1.2.2.2.2 N3 ∧ HS [] w0 w' [N0, N1, N2, N3]) := by
  rw [hD]
  exact refdec20_any v l hr hl n h
set_option maxHeartbeats 1000000 in
theorem resultReads_any {w0 : World} {lv : Nat} (hg : Gl lv w0) (v : Value) (l : Bs) (hr : By [] w0 v l) (hl : l.length ≤ 1048576) (n h : Int) :
    Calls Tryd.prog 7 #[v, I n, I h] w0 (Ret fun r w' => r = .bool true ∧ HS [] w0 w' []) := by
 have hH := HS.start w0
 refine start (n := 56) (E := [(0, _), (1, _), (2, _)]) Tryd.func7 rfl rfl rfl (args_look rfl) ?_
 intro a hA
 obtain ⟨D, hD⟩ : ∃ D, D = decR n h l := ⟨_, rfl⟩
 obtain ⟨hD1, hD2, hD3, hD4, hD5, hD6, hD7⟩ := decR_len hD
 have hdet := decR_det hD
 refine wp_seq_k fun K1 hK1 => ?_
 refine wp_region_lit ?_
 refine asg hA fun a hA => ?_
 refine wpList_nil ?_
 refine hK1 _ _ ?_
 clear hK1
 refine wp_seq_k fun K2 hK2 => ?_
 refine wp_seq_k fun K3 hK3 => ?_
 refine wp_region_lit ?_
 refine mv hA fun a hA => ?_
 refine mv hA fun a hA => ?_
 refine sl hA (lo_call fn23 rfl (glaw20_any _ _)) rfl ?_
 rintro _ w ⟨rfl, hC⟩ a hA
 replace hH := HS.call0 hH hC
 clear hC
 refine hA.spl (fun hs13 hA => ?_) (fun hs13 hA => ?_)
 ·skip
  refine mv hA fun a hA => ?_
  refine gs hA rfl rfl rfl rfl fun a hA => ?_
  refine gs hA rfl rfl rfl rfl fun a hA => ?_
  refine gs hA rfl rfl rfl rfl fun a hA => ?_
  refine sq hA (q_pick_t rfl rfl) rfl fun a hA => ?_
  refine wpList_nil ?_
  refine hK3 _ _ ?_
  clear hK3
  replace hA := hA.s5 18 6 0 1 2
  refine cond_t hA rfl ?_
  refine wp_seq_k fun K4 hK4 => ?_
  refine wp_region_lit ?_
  refine sl hA (lo_call fn15 rfl (awake20_any (hg.mono0 hH))) rfl ?_
  rintro _ w ⟨rfl, hC⟩ a hA
  replace hH := HS.call0 hH hC
  clear hC
  refine asg hA fun a hA => ?_
  refine wpList_nil ?_
  refine hK4 _ _ ?_
  clear hK4
  replace hA := hA.s4 6 0 1 2
  refine wp_ret ?_
  refine then_ret ?_
  refine post_ret hA (res_1 rfl hA rfl) ?_
  exact ⟨_, rfl, rfl, hH⟩
 ·skip
  refine mv hA fun a hA => ?_
  refine gq hA rfl rfl (q_move rfl) rfl fun a hA => ?_
  refine gq hA rfl rfl (q_len Tryd.underlying22 rfl (Rd.shp hr)) rfl fun a hA => ?_
  refine gq hA rfl rfl (q_gtrI (n := 4000) rfl rfl) rfl fun a hA => ?_
  refine hA.spl (fun hs17 hA => ?_) (fun hs17 hA => ?_)
  ·skip
   refine sq hA (q_pick_f rfl rfl) rfl fun a hA => ?_
   refine wpList_nil ?_
   refine hK3 _ _ ?_
   clear hK3
   replace hA := hA.s5 18 6 0 1 2
   refine cond_t hA rfl ?_
   refine wp_seq_k fun K5 hK5 => ?_
   refine wp_region_lit ?_
   refine sl hA (lo_call fn15 rfl (awake20_any (hg.mono0 hH))) rfl ?_
   rintro _ w ⟨rfl, hC⟩ a hA
   replace hH := HS.call0 hH hC
   clear hC
   refine asg hA fun a hA => ?_
   refine wpList_nil ?_
   refine hK5 _ _ ?_
   clear hK5
   replace hA := hA.s4 6 0 1 2
   refine wp_ret ?_
   refine then_ret ?_
   refine post_ret hA (res_1 rfl hA rfl) ?_
   exact ⟨_, rfl, rfl, hH⟩
  ·skip
   refine sq hA (q_pick_f rfl rfl) rfl fun a hA => ?_
   refine wpList_nil ?_
   refine hK3 _ _ ?_
   clear hK3
   replace hA := hA.s5 18 6 0 1 2
   refine cond_f hA rfl ?_
   refine wp_skip ?_
   refine hK2 _ _ ?_
   clear hK2
   replace hA := hA.s4 6 0 1 2
   refine wp_seq_k fun K6 hK6 => ?_
   refine wp_region_lit ?_
   refine mv hA fun a hA => ?_
   refine sl hA (lo_call fn18 rfl (own20_any _ _ (hH.rd hr) (by first | omega | (simp; done) | (simp; omega)))) rfl ?_
   rintro _ w ⟨v_t22, N_t22, rfl, hO_t22, hC⟩ a hA
   replace hH := HS.call0 hH hC
   clear hC
   refine mv hA fun a hA => ?_
   refine mv hA fun a hA => ?_
   refine sl hA (lo_call fn31 rfl (dec20_g _ _ (Own.rd0 hO_t22 hH 0 rfl) (by first | omega | (simp; done) | (simp; omega)) _ _ hD)) rfl ?_
   rintro _ w ⟨v_at25, v_bt25, v_ot25, v_pt25, N_at25, N_bt25, N_ot25, N_pt25, rfl, hO_at25, hO_bt25, hO_ot25, hO_pt25, hC⟩ a hA
   replace hH := HS.call0 hH hC
   clear hC
   refine mv hA fun a hA => ?_
   refine sq hA (q_extract rfl rfl) rfl fun a hA => ?_
   refine sq hA (q_extract rfl rfl) rfl fun a hA => ?_
   refine sl hA (lo_allocA hH ti29) rfl ?_
   clear hH; rintro _ w ⟨b_t7, rfl, hH⟩ a hA
   refine s0 hA (lo_storeAm hH ti29 rfl rfl (rfl) (rfl) (ones_cons (Own.one hO_at25) (ones_cons (Own.one hO_bt25) (ones_cons rfl (ones_cons (Own.one hO_ot25) (ones_cons (Own.one hO_pt25) ones_nil)))))) ?_
   clear hH; rintro _ w hH
   refine asg hA fun a hA => ?_
   refine wpList_nil ?_
   refine hK6 _ _ ?_
   clear hK6
   replace hA := hA.s6 8 7 6 0 1 2
   refine wp_seq_k fun K7 hK7 => ?_
   refine wp_region_lit ?_
   refine mv hA fun a hA => ?_
   refine mv hA fun a hA => ?_
   refine mv hA fun a hA => ?_
   refine sl hA (lo_call fn32 rfl (refdec20_g _ _ (hH.rd hr) (by first | omega | (simp; done) | (simp; omega)) _ _ hD)) rfl ?_
   rintro _ w ⟨v_at32, v_bt32, v_ot32, v_pt32, N_at32, N_bt32, N_ot32, N_pt32, rfl, hO_at32, hO_bt32, hO_ot32, hO_pt32, hC⟩ a hA
   replace hH := HS.call0 hH hC
   clear hC
   refine mv hA fun a hA => ?_
   refine sq hA (q_extract rfl rfl) rfl fun a hA => ?_
   refine sq hA (q_extract rfl rfl) rfl fun a hA => ?_
   refine sl hA (lo_allocA hH ti29) rfl ?_
   clear hH; rintro _ w ⟨b_t9, rfl, hH⟩ a hA
   refine s0 hA (lo_storeAm hH ti29 rfl rfl (rfl) (rfl) (ones_cons (Own.one hO_at32) (ones_cons (Own.one hO_bt32) (ones_cons rfl (ones_cons (Own.one hO_ot32) (ones_cons (Own.one hO_pt32) ones_nil)))))) ?_
   clear hH; rintro _ w hH
   refine asg hA fun a hA => ?_
   refine wpList_nil ?_
   refine hK7 _ _ ?_
   clear hK7
   replace hA := hA.s6 10 9 8 7 6 0
   refine wp_seq_k fun K8 hK8 => ?_
   refine wp_region_lit ?_
   refine mv hA fun a hA => ?_
   refine mv hA fun a hA => ?_
   refine sq hA (q_eqlI rfl rfl) rfl fun a hA => ?_
   replace hA := hA.decT (by first | rfl | omega | assumption | (simp; done) | (simp [*]; done))
   refine mv hA fun a hA => ?_
   refine gq hA rfl rfl (q_loadW hH 5 rfl Tryd.underlying29 rfl ti29 rfl (by first | omega | (simp; done) | (simp; omega) | (rw [List.length_map]; assumption) | assumption | rfl | (simp [*]; done) | (simp [*]; omega))) rfl fun a hA => ?_
   refine gq hA rfl rfl (q_loadW hH 0 rfl Tryd.underlying29 rfl ti29 rfl (by first | omega | (simp; done) | (simp; omega) | (rw [List.length_map]; assumption) | assumption | rfl | (simp [*]; done) | (simp [*]; omega))) rfl fun a hA => ?_
   refine gl hA rfl rfl (lo_call fn33 rfl (same20_any _ _ _ _ (Own.rd0 hO_at25 hH 6 rfl) (Own.rd0 hO_bt25 hH 7 rfl) (by first | omega | (simp; done) | (simp; omega)) (by first | omega | (simp; done) | (simp; omega)) _ _ _ _ _ (by first | assumption | exact Dg.nil) (by first | assumption | exact Dg.nil) (Own.rd0 hO_ot25 hH 8 rfl) (Own.rd0 hO_pt25 hH 9 rfl) (by first | omega | (simp; done) | (simp; omega)) (by first | omega | (simp; done) | (simp; omega)) _ _ _ _ (Own.rd0 hO_at32 hH 1 rfl) (Own.rd0 hO_bt32 hH 2 rfl) (by first | omega | (simp; done) | (simp; omega)) (by first | omega | (simp; done) | (simp; omega)) _ _ _ _ _ (by first | assumption | exact Dg.nil) (by first | assumption | exact Dg.nil) (Own.rd0 hO_ot32 hH 3 rfl) (Own.rd0 hO_pt32 hH 4 rfl) (by first | omega | (simp; done) | (simp; omega)) (by first | omega | (simp; done) | (simp; omega)))) rfl ?_
   rintro _ w ⟨rfl, hC⟩ a hA
   replace hH := HS.call0 hH hC
   clear hC
   refine sq hA (q_pick_t rfl rfl) rfl fun a hA => ?_
   replace hA := hA.decT (by exact ⟨rfl, rfl, rfl, rfl, rfl⟩)
   refine mv hA fun a hA => ?_
   refine gq hA rfl rfl (q_move rfl) rfl fun a hA => ?_
   refine gq hA rfl rfl (q_neqI (n := 0) rfl rfl) rfl fun a hA => ?_
   refine hA.spl (fun hs45 hA => ?_) (fun hs45 hA => ?_)
   ·skip
    refine gq hA rfl rfl (q_move rfl) rfl fun a hA => ?_
    refine gs hA rfl rfl rfl rfl fun a hA => ?_
    refine gs hA rfl rfl rfl rfl fun a hA => ?_
    refine gs hA rfl rfl rfl rfl fun a hA => ?_
    refine gs hA rfl rfl rfl rfl fun a hA => ?_
    refine gq hA rfl rfl (q_pick_t rfl rfl) rfl fun a hA => ?_
    refine sq hA (q_pick_t rfl rfl) rfl fun a hA => ?_
    refine mv hA fun a hA => ?_
    refine gl hA rfl rfl (lo_call fn15 rfl (awake20_any (hg.mono0 hH))) rfl ?_
    rintro _ w ⟨rfl, hC⟩ a hA
    replace hH := HS.call0 hH hC
    clear hC
    refine sq hA (q_pick_t rfl rfl) rfl fun a hA => ?_
    refine asg hA fun a hA => ?_
    refine wpList_nil ?_
    refine hK8 _ _ ?_
    clear hK8
    replace hA := hA.s1 6
    refine wp_ret ?_
    refine post_ret hA (res_1 rfl hA rfl) ?_
    replace hH := hH.pick [] (Hs' := []) rfl
    exact ⟨_, rfl, rfl, hH⟩
   ·skip
    have hde := hdet (by omega)
    have hdl := congrArg List.length hde
    refine gq hA rfl rfl (q_move rfl) rfl fun a hA => ?_
    refine gq hA rfl rfl (q_loadW hH 5 rfl Tryd.underlying29 rfl ti29 rfl (by first | omega | (simp; done) | (simp; omega) | (rw [List.length_map]; assumption) | assumption | rfl | (simp [*]; done) | (simp [*]; omega))) rfl fun a hA => ?_
    refine gl hA rfl rfl (lo_call fn20 rfl (enc20_any _ _ _ _ (Own.rd0 hO_at25 hH 6 rfl) (Own.rd0 hO_bt25 hH 7 rfl) (by first | omega | (simp; done) | (simp; omega)) (by first | omega | (simp; done) | (simp; omega)) _ _ _ _ _ (by first | assumption | exact Dg.nil) (by first | assumption | exact Dg.nil) (Own.rd0 hO_ot25 hH 8 rfl) (Own.rd0 hO_pt25 hH 9 rfl) (by first | omega | (simp; done) | (simp; omega)) (by first | omega | (simp; done) | (simp; omega)) (by omega) (by omega) (by omega))) rfl ?_
    rintro _ w ⟨v_t48, N_t48, rfl, hO_t48, hC⟩ a hA
    replace hH := HS.call0 hH hC
    clear hC
    refine gq hA rfl rfl (q_move rfl) rfl fun a hA => ?_
    refine gl hA rfl rfl (lo_call fn16 rfl (same_any _ _ _ _ (Own.rd0 hO_t48 hH 0 rfl) (hH.rd hr) (by first | omega | (simp; done) | (simp; omega)) (by first | omega | (simp; done) | (simp; omega)))) rfl ?_
    rintro _ w ⟨rfl, hC⟩ a hA
    replace hH := HS.call0 hH hC
    clear hC
    refine gq hA rfl rfl (q_pick_f rfl rfl) rfl fun a hA => ?_
    refine sq hA (q_pick_t rfl rfl) rfl fun a hA => ?_
    replace hA := hA.decT (by first | rfl | omega | assumption | (simp; done) | (simp [*]; done))
    refine mv hA fun a hA => ?_
    refine gl hA rfl rfl (lo_call fn15 rfl (awake20_any (hg.mono0 hH))) rfl ?_
    rintro _ w ⟨rfl, hC⟩ a hA
    replace hH := HS.call0 hH hC
    clear hC
    refine sq hA (q_pick_t rfl rfl) rfl fun a hA => ?_
    refine asg hA fun a hA => ?_
    refine wpList_nil ?_
    refine hK8 _ _ ?_
    clear hK8
    replace hA := hA.s1 6
    refine wp_ret ?_
    refine post_ret hA (res_1 rfl hA rfl) ?_
    replace hH := hH.pick [] (Hs' := []) rfl
    exact ⟨_, rfl, rfl, hH⟩

end Go.Proofs.YtnnkgdijaekcfaaDoor
