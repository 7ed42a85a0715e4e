/- Layer 22 (worker): the law WorkerRefuses. -/
import Derived.Test.YtnnkgdijaekcfaaDoorKk
namespace Go.Proofs.YtnnkgdijaekcfaaDoor
open Go
set_option linter.unusedVariables false
set_option linter.unusedSimpArgs false
set_option maxRecDepth 100000

theorem HdOk.mv {M : List Nat} {w0 w : World} {Hs : List Hl} {e : Heard} (hH : HS M w0 w Hs) (h : HdOk M w0 e) : HdOk [] w e := ⟨hH.rd h.1, hH.rd h.2.1, h.2.2.1, h.2.2.2⟩
set_option maxHeartbeats 2000000 in
theorem workerRefuses_any {w0 : World} (hg : Gl 2 w0) (cs : List Int) (hcs : cs.length = 7) (s : Bs) (hsd : s.length = 32) (key : Bs) (hkey : key.length = 32) (v : Value) (hs : List Heard) (hr : RdHd [] w0 v hs) (hal : hs.length ≤ 1048576) (vo : Value) (ls : List Bs) (hro : RdR [] w0 vo ls) (hlo : ls.length ≤ 1048576) :
    Calls Tryd.prog 10 #[(.agg ((cs).map I).toArray), (.agg ((s).map B8).toArray), (.agg ((key).map B8).toArray), v, vo] w0 (Ret fun r w' => r = .bool true ∧ HS [] w0 w' []) := by
 have hH := HS.start w0
 refine start (n := 159) (E := [(0, _), (1, _), (2, _), (3, _), (4, _)]) Tryd.func10 rfl rfl rfl (args_look rfl) ?_
 intro a hA
 refine wp_seq_k fun K1 hK1 => ?_
 refine wp_region_lit ?_
 refine sl hA (lo_boxA hH rfl) rfl ?_
 clear hH; rintro _ w ⟨b_t5, rfl, hH⟩ a hA
 refine sl hA (lo_boxA hH rfl) rfl ?_
 clear hH; rintro _ w ⟨b_t6, rfl, hH⟩ a hA
 refine sl hA (lo_boxA hH rfl) rfl ?_
 clear hH; rintro _ w ⟨b_t7, rfl, hH⟩ a hA
 refine asg hA fun a hA => ?_
 refine wpList_nil ?_
 refine hK1 _ _ ?_
 clear hK1
 replace hA := hA.s6 10 7 6 5 3 4
 refine wp_seq_k fun K2 hK2 => ?_
 refine wp_seq_k fun K3 hK3 => ?_
 refine wp_region_lit ?_
 refine sq hA (q_loadW hH 2 rfl Tryd.underlying78 rfl ti78 rfl (by first | omega | (simp; done) | (simp; omega) | (rw [List.length_map]; assumption) | assumption | rfl | (simp [*]; done) | (simp [*]; omega))) rfl fun a hA => ?_
 refine sl hA (lo_call fn44 rfl (heavy22_any _ (by assumption))) rfl ?_
 rintro _ w ⟨rfl, hC⟩ a hA
 replace hH := HS.call0 hH hC
 clear hC
 refine hA.spl (fun hs27 hA => ?_) (fun hs27 hA => ?_)
 ·skip
  refine mv hA fun a hA => ?_
  refine gs hA rfl rfl rfl rfl fun a hA => ?_
  refine gs hA rfl rfl rfl rfl fun a hA => ?_
  refine sq hA (q_pick_t rfl rfl) rfl fun a hA => ?_
  refine mv hA fun a hA => ?_
  refine gs hA rfl rfl rfl rfl fun a hA => ?_
  refine gs hA rfl rfl rfl rfl fun a hA => ?_
  refine gs hA rfl rfl rfl rfl fun a hA => ?_
  refine sq hA (q_pick_t rfl rfl) rfl fun a hA => ?_
  refine mv hA fun a hA => ?_
  refine gs hA rfl rfl rfl rfl fun a hA => ?_
  refine gs hA rfl rfl rfl rfl fun a hA => ?_
  refine gs hA rfl rfl rfl rfl fun a hA => ?_
  refine sq hA (q_pick_t rfl rfl) rfl fun a hA => ?_
  refine wpList_nil ?_
  refine hK3 _ _ ?_
  clear hK3
  replace hA := hA.s7 41 10 7 6 5 3 4
  refine cond_t hA rfl ?_
  refine wp_seq_k fun K4 hK4 => ?_
  refine wp_region_lit ?_
  refine sl hA (lo_call fn35 rfl (awake22_any (hg.mono0 hH))) rfl ?_
  rintro _ w ⟨rfl, hC⟩ a hA
  replace hH := HS.call0 hH hC
  clear hC
  refine asg hA fun a hA => ?_
  refine wpList_nil ?_
  refine hK4 _ _ ?_
  clear hK4
  replace hA := hA.s6 10 7 6 5 3 4
  refine wp_ret ?_
  refine then_ret ?_
  refine post_ret hA (res_1 rfl hA rfl) ?_
  replace hH := hH.pick [] (Hs' := []) rfl
  exact ⟨_, rfl, rfl, hH⟩
 ·skip
  refine mv hA fun a hA => ?_
  refine gq hA rfl rfl (q_move rfl) rfl fun a hA => ?_
  refine gl hA rfl rfl (lo_call fn45 rfl (long22_any _ _ (hH.rdHd hr) (by first | omega | (simp; done) | (simp; omega)))) rfl ?_
  rintro _ w ⟨b_t30, rfl, hb_t30, hC⟩ a hA
  replace hH := HS.call0 hH hC
  clear hC
  refine hA.spl (fun hs30 hA => ?_) (fun hs30 hA => ?_)
  ·skip
   refine sq hA (q_pick_f rfl rfl) rfl fun a hA => ?_
   refine mv hA fun a hA => ?_
   refine gs hA rfl rfl rfl rfl fun a hA => ?_
   refine gs hA rfl rfl rfl rfl fun a hA => ?_
   refine gs hA rfl rfl rfl rfl fun a hA => ?_
   refine sq hA (q_pick_t rfl rfl) rfl fun a hA => ?_
   refine mv hA fun a hA => ?_
   refine gs hA rfl rfl rfl rfl fun a hA => ?_
   refine gs hA rfl rfl rfl rfl fun a hA => ?_
   refine gs hA rfl rfl rfl rfl fun a hA => ?_
   refine sq hA (q_pick_t rfl rfl) rfl fun a hA => ?_
   refine wpList_nil ?_
   refine hK3 _ _ ?_
   clear hK3
   replace hA := hA.s7 41 10 7 6 5 3 4
   refine cond_t hA rfl ?_
   refine wp_seq_k fun K5 hK5 => ?_
   refine wp_region_lit ?_
   refine sl hA (lo_call fn35 rfl (awake22_any (hg.mono0 hH))) rfl ?_
   rintro _ w ⟨rfl, hC⟩ a hA
   replace hH := HS.call0 hH hC
   clear hC
   refine asg hA fun a hA => ?_
   refine wpList_nil ?_
   refine hK5 _ _ ?_
   clear hK5
   replace hA := hA.s6 10 7 6 5 3 4
   refine wp_ret ?_
   refine then_ret ?_
   refine post_ret hA (res_1 rfl hA rfl) ?_
   replace hH := hH.pick [] (Hs' := []) rfl
   exact ⟨_, rfl, rfl, hH⟩
  ·skip
   have hl12 : hs.length ≤ 12 := hb_t30 (by simpa using hs30)
   refine sq hA (q_pick_f rfl rfl) rfl fun a hA => ?_
   refine mv hA fun a hA => ?_
   refine gq hA rfl rfl (q_loadW hH 2 rfl Tryd.underlying78 rfl ti78 rfl (by first | omega | (simp; done) | (simp; omega) | (rw [List.length_map]; assumption) | assumption | rfl | (simp [*]; done) | (simp [*]; omega))) rfl fun a hA => ?_
   refine gl hA rfl rfl (lo_call fn46 rfl (refright21_any _ (by assumption))) rfl ?_
   rintro _ w ⟨rfl, hC⟩ a hA
   replace hH := HS.call0 hH hC
   clear hC
   refine hA.spl (fun hs34 hA => ?_) (fun hs34 hA => ?_)
   ·skip
    have hC : RightC cs := by assumption
    obtain ⟨⟨c1, c2⟩, ⟨c3, c4⟩, ⟨c5, c6⟩, ⟨c7, c8⟩, ⟨c9, c10⟩, ⟨c11, c12⟩, ⟨c13, c14⟩⟩ := id hC
    obtain ⟨n, hn3⟩ : ∃ n : Nat, cs.getD 3 0 = n := ⟨(cs.getD 3 0).toNat, by omega⟩
    obtain ⟨h, hn2⟩ : ∃ h : Nat, cs.getD 2 0 = h := ⟨(cs.getD 2 0).toNat, by omega⟩
    have hR : R7 (n : Int) (h : Int) := by unfold R7 R5; omega
    have hh6 : h ≤ 6 := by omega
    have h64 := pow_le64 hh6
    have hp0 : 0 < 2 ^ h := Nat.pow_pos (by decide)
    refine gq hA rfl rfl (q_not rfl) rfl fun a hA => ?_
    refine sq hA (q_pick_f rfl rfl) rfl fun a hA => ?_
    refine mv hA fun a hA => ?_
    refine gq hA rfl rfl (q_move rfl) rfl fun a hA => ?_
    refine gq hA rfl rfl (q_len Tryd.underlying80 rfl (RdR.shp hro)) rfl fun a hA => ?_
    refine gq hA rfl rfl (q_gtrI (n := 20) rfl rfl) rfl fun a hA => ?_
    refine hA.spl (fun hs40 hA => ?_) (fun hs40 hA => ?_)
    ·skip
     refine sq hA (q_pick_f rfl rfl) rfl fun a hA => ?_
     refine wpList_nil ?_
     refine hK3 _ _ ?_
     clear hK3
     replace hA := hA.s7 41 10 7 6 5 3 4
     refine cond_t hA rfl ?_
     refine wp_seq_k fun K6 hK6 => ?_
     refine wp_region_lit ?_
     refine sl hA (lo_call fn35 rfl (awake22_any (hg.mono0 hH))) rfl ?_
     rintro _ w ⟨rfl, hC⟩ a hA
     replace hH := HS.call0 hH hC
     clear hC
     refine asg hA fun a hA => ?_
     refine wpList_nil ?_
     refine hK6 _ _ ?_
     clear hK6
     replace hA := hA.s6 10 7 6 5 3 4
     refine wp_ret ?_
     refine then_ret ?_
     refine post_ret hA (res_1 rfl hA rfl) ?_
     replace hH := hH.pick [] (Hs' := []) rfl
     exact ⟨_, rfl, rfl, hH⟩
    ·skip
     refine sq hA (q_pick_f rfl rfl) rfl fun a hA => ?_
     refine wpList_nil ?_
     refine hK3 _ _ ?_
     clear hK3
     replace hA := hA.s7 41 10 7 6 5 3 4
     refine cond_f hA rfl ?_
     refine wp_skip ?_
     refine hK2 _ _ ?_
     clear hK2
     replace hA := hA.s6 10 7 6 5 3 4
     refine wp_seq_k fun K7 hK7 => ?_
     refine wp_region_lit ?_
     refine sq hA (q_loadW hH 2 rfl Tryd.underlying78 rfl ti78 rfl (by first | omega | (simp; done) | (simp; omega) | (rw [List.length_map]; assumption) | assumption | rfl | (simp [*]; done) | (simp [*]; omega))) rfl fun a hA => ?_
     refine sq hA (q_loadW hH 1 rfl Tryd.underlying24 rfl ti24 rfl (by first | omega | (simp; done) | (simp; omega) | (rw [List.length_map]; assumption) | assumption | rfl | (simp [*]; done) | (simp [*]; omega))) rfl fun a hA => ?_
     refine sq hA (q_loadW hH 0 rfl Tryd.underlying24 rfl ti24 rfl (by first | omega | (simp; done) | (simp; omega) | (rw [List.length_map]; assumption) | assumption | rfl | (simp [*]; done) | (simp [*]; omega))) rfl fun a hA => ?_
     refine sl hA (lo_call fn47 rfl (neww_w (hg.mono0 hH) cs hcs hC s hsd key hkey n h hn3 hn2 hR)) rfl ?_
     rintro _ w ⟨b_w, N_w, rfl, hW_w, hC⟩ a hA
     replace hH := HS.call0 hH hC
     clear hC
     refine mv hA fun a hA => ?_
     refine sq hA (q_extract rfl rfl) rfl fun a hA => ?_
     refine sq hA (q_extract rfl rfl) rfl fun a hA => ?_
     refine asg hA fun a hA => ?_
     refine asg hA fun a hA => ?_
     refine wpList_nil ?_
     refine hK7 _ _ ?_
     clear hK7
     replace hA := hA.s8 12 11 10 7 6 5 3 4
     refine wp_seq_k fun K8 hK8 => ?_
     refine wp_region_lit ?_
     refine sq hA (q_loadW hH 3 rfl Tryd.underlying78 rfl ti78 rfl (by first | omega | (simp; done) | (simp; omega) | (rw [List.length_map]; assumption) | assumption | rfl | (simp [*]; done) | (simp [*]; omega))) rfl fun a hA => ?_
     refine sq hA (q_loadW hH 2 rfl Tryd.underlying24 rfl ti24 rfl (by first | omega | (simp; done) | (simp; omega) | (rw [List.length_map]; assumption) | assumption | rfl | (simp [*]; done) | (simp [*]; omega))) rfl fun a hA => ?_
     refine sq hA (q_loadW hH 1 rfl Tryd.underlying24 rfl ti24 rfl (by first | omega | (simp; done) | (simp; omega) | (rw [List.length_map]; assumption) | assumption | rfl | (simp [*]; done) | (simp [*]; omega))) rfl fun a hA => ?_
     refine sl hA (lo_call fn47 rfl (neww_w (hg.mono0 hH) cs hcs hC s hsd key hkey n h hn3 hn2 hR)) rfl ?_
     rintro _ w ⟨b_v, N_v, rfl, hW_v, hC⟩ a hA
     replace hH := HS.call0 hH hC
     clear hC
     refine mv hA fun a hA => ?_
     refine sq hA (q_extract rfl rfl) rfl fun a hA => ?_
     refine sq hA (q_extract rfl rfl) rfl fun a hA => ?_
     refine asg hA fun a hA => ?_
     refine asg hA fun a hA => ?_
     refine wpList_nil ?_
     refine hK8 _ _ ?_
     clear hK8
     replace hA := hA.s8 14 13 12 11 10 7 3 4
     refine wp_seq_k fun K9 hK9 => ?_
     refine wp_seq_k fun K10 hK10 => ?_
     refine wp_region_lit ?_
     refine asg hA fun a hA => ?_
     refine wpList_nil ?_
     refine hK10 _ _ ?_
     clear hK10
     refine wp_block ?_
     replace hH := hH.pick [2, 1, 0, 3, 4] (Hs' := [_, _, _, _, _]) rfl
     replace hH := HS.fold [_, _, _] [_, _] hH
     obtain ⟨NR11, hNR11, hH⟩ := hH
     refine wp_loop_ghost (fun gm a w => ∃ i : Nat, ∃ x : Nat, ∃ did : Dids, ∃ N_w : Hl, ∃ N_v : Hl, At 159 [(15, I i), (14, I 0), (13, (.pointer (some ⟨b_v, 0, none⟩))), (12, I 0), (11, (.pointer (some ⟨b_w, 0, none⟩))), (10, (.bool false)), (7, (.pointer (some ⟨b_t7, 0, none⟩))), (3, v), (4, vo)] a ∧ HS [] w0 w ([[(b_t7, Obj.cells (key.map B8).toArray 24 (0, 0))], N_w, N_v, NR11]) ∧ (i ≤ 1048577) ∧ (WkM key s n h b_w x did N_w) ∧ (WkM key s n h b_v x did N_v) ∧ gm = 1048577 - i) (1048577 - (0)) ⟨0, 0, [], N_w, N_v, hA.sub ⟨rfl, rfl, rfl, rfl, rfl, rfl, rfl, rfl, rfl, trivial⟩, hH, by omega, by exact hW_w, by exact hW_v, rfl⟩ ?_
     clear hA hH
     rintro gm a w ⟨i, x, did, N_w, N_v, hA, hH, hi, hW_w, hW_v, rfl⟩
     refine wp_seq_k fun K12 hK12 => ?_
     refine wp_seq_k fun K13 hK13 => ?_
     refine wp_region_lit ?_
     refine mv hA fun a hA => ?_
     refine mv hA fun a hA => ?_
     refine sq hA (q_len Tryd.underlying79 rfl (Rd.shp hr.1)) rfl fun a hA => ?_
     refine sq hA (q_lssI rfl rfl) rfl fun a hA => ?_
     refine hA.spl (fun hs60 hA => ?_) (fun hs60 hA => ?_)
     ·skip
      refine mv hA fun a hA => ?_
      refine gs hA rfl rfl rfl rfl fun a hA => ?_
      refine gs hA rfl rfl rfl rfl fun a hA => ?_
      refine gs hA rfl rfl rfl rfl fun a hA => ?_
      refine gs hA rfl rfl rfl rfl fun a hA => ?_
      refine sq hA (q_pick_t rfl rfl) rfl fun a hA => ?_
      refine wpList_nil ?_
      refine hK13 _ _ ?_
      clear hK13
      refine cond_t hA rfl ?_
      refine wp_skip ?_
      refine hK12 _ _ ?_
      clear hK12
      refine wp_seq_k fun K14 hK14 => ?_
      refine wp_block ?_
      refine wp_seq_k fun K15 hK15 => ?_
      refine wp_seq_k fun K16 hK16 => ?_
      refine wp_region_lit ?_
      refine mv hA fun a hA => ?_
      refine mv hA fun a hA => ?_
      refine sq hA (q_len Tryd.underlying80 rfl (RdR.shp hro)) rfl fun a hA => ?_
      refine sq hA (q_lssI rfl rfl) rfl fun a hA => ?_
      refine hA.spl (fun hs72 hA => ?_) (fun hs72 hA => ?_)
      ·skip
       refine mv hA fun a hA => ?_
       refine gq hA rfl rfl (q_move rfl) rfl fun a hA => ?_
       refine gq hA rfl rfl (q_move rfl) rfl fun a hA => ?_
       refine gq hA rfl rfl (q_idx1 (i) Tryd.underlying80 ti22 rfl rfl (by first | omega | rfl) (RdR.shp hro) (by first | omega | (simp; done) | (simp; omega) | (rw [List.length_map]; assumption) | assumption | rfl | (simp [*]; done) | (simp [*]; omega))) rfl fun a hA => ?_
       have hx_t77 := hro
       obtain ⟨vs_t77, hvl_t77, hvo_t77, hvr_t77⟩ := hx_t77
       refine gq hA rfl rfl (q_loadR Tryd.underlying22 rfl rfl (hH.rd hvo_t77) (by first | omega | (simp; done) | (simp; omega) | (rw [List.length_map]; assumption) | assumption | rfl | (simp [*]; done) | (simp [*]; omega)) (getD_some' vs_t77 nilV (by first | omega | (simp; done) | (simp; omega) | (rw [List.length_map]; assumption) | assumption | rfl | (simp [*]; done) | (simp [*]; omega)))) rfl fun a hA => ?_
       refine gq hA rfl rfl (q_len Tryd.underlying22 rfl (Rd.shp (hvr_t77 (i) (by first | omega | (simp; done) | (simp; omega) | (rw [List.length_map]; assumption) | assumption | rfl | (simp [*]; done) | (simp [*]; omega))))) rfl fun a hA => ?_
       refine gq hA rfl rfl (q_leqI (n := 500) rfl rfl) rfl fun a hA => ?_
       refine hA.spl (fun hs79 hA => ?_) (fun hs79 hA => ?_)
       ·skip
        obtain ⟨D, hD⟩ : ∃ D, D = decO key (ls.getD i []) := ⟨_, rfl⟩
        have hDn : D.1.2.2.2.2.2.length = 32 := by rw [hD]; exact decO_n key _
        have hlo2 := hs79
        simp at hlo2
        refine sq hA (q_pick_t rfl rfl) rfl fun a hA => ?_
        refine wpList_nil ?_
        refine hK16 _ _ ?_
        clear hK16
        refine cond_t hA rfl ?_
        refine wp_seq_k fun K17 hK17 => ?_
        refine any_go mixed (fun j => !(Nat.beq j 5 || Nat.beq j 10)) hH ?_
        clear hH; intro w hH
        have hS := hH
        refine any_l 12 ?_
        refine r0 hA 0 1 rfl hS (fun w hH => (q_loadW hH 0 rfl Tryd.underlying24 rfl ti24 rfl (by first | omega | (simp; done) | (simp; omega) | (rw [List.length_map]; assumption) | assumption | rfl | (simp [*]; done) | (simp [*]; omega)))) fun a hA => ?_
        refine p0 hA 1 3 rfl (fun w => (q_move rfl)) fun a hA => ?_
        refine p0 hA 2 7 rfl (fun w => (q_move rfl)) fun a hA => ?_
        refine p0 hA 3 15 rfl (fun w => (q_idx1 (i) Tryd.underlying80 ti22 rfl rfl (by first | omega | rfl) (RdR.shp hro) (by first | omega | (simp; done) | (simp; omega) | (rw [List.length_map]; assumption) | assumption | rfl | (simp [*]; done) | (simp [*]; omega)))) fun a hA => ?_
        have hx_t86 := hro
        obtain ⟨vs_t86, hvl_t86, hvo_t86, hvr_t86⟩ := hx_t86
        refine r0 hA 4 31 rfl hS (fun w hH => (q_loadR Tryd.underlying22 rfl rfl (hH.rd hvo_t86) (by first | omega | (simp; done) | (simp; omega) | (rw [List.length_map]; assumption) | assumption | rfl | (simp [*]; done) | (simp [*]; omega)) (getD_some' vs_t86 nilV (by first | omega | (simp; done) | (simp; omega) | (rw [List.length_map]; assumption) | assumption | rfl | (simp [*]; done) | (simp [*]; omega))))) fun a hA => ?_
        refine a_ch2 (i := 5) (j := 9) (by kernel_rfl) ?_ ?_
        ·skip
         refine o1n hA 5 63 rfl (lo_call fn40 rfl (refdecw_g (hg.mono0 hH) _ (by first | exact hkey | exact hnn | exact hDn | exact hn2 | (first | assumption | (rw [List.length_map]; assumption) | rfl | exact sha_length _ | (simp; done) | (simp [*]; done) | omega)) _ _ (hH.rd (hvr_t86 (i) (by first | omega | (simp; done) | (simp; omega) | (rw [List.length_map]; assumption) | assumption | rfl | (simp [*]; done) | (simp [*]; omega)))) (by first | omega | (simp; done) | (simp; omega)) hD)) ?_
         rintro _ w ⟨v_at87, v_bt87, N_at87, N_bt87, rfl, hO_at87, hO_bt87, hC⟩
         replace hH := HS.call0 hH hC
         clear hC
         intro a hA
         refine p0 hA 6 127 rfl (fun w => (q_move rfl)) fun a hA => ?_
         refine p0 hA 7 255 rfl (fun w => (q_extract rfl rfl)) fun a hA => ?_
         refine p0 hA 8 511 rfl (fun w => (q_extract rfl rfl)) fun a hA => ?_
         refine a1 hA 9 1023 rfl (lo_allocA hH ti64) ?_
         clear hH; rintro _ w ⟨b_t16, rfl, hH⟩
         replace hS := hH.pick [3, 4, 5, 6] (Hs' := [_, _, _, _]) rfl
         refine ⟨fun _ _ => hS, ?_⟩
         intro a hA
         refine a0n hA 10 2047 rfl (lo_storeAm hH ti64 rfl rfl (by first | rfl | exact ordC_length hDn) (by first | rfl | exact ordC_length hDn) (ordC_one (Own.one hO_at87) (Own.one hO_bt87))) ?_
         clear hH; rintro _ w hH
         refine p0 hA 11 4095 rfl (fun w => (q_assign rfl)) fun a hA => ?_
         refine a_end (by kernel_rfl) ?_ _
         refine hK17 _ _ ?_
         clear hK17
         refine wp_seq_k fun K18 hK18 => ?_
         refine wp_region_lit ?_
         refine mv hA fun a hA => ?_
         refine sq hA (q_neqI (n := 0) rfl rfl) rfl fun a hA => ?_
         refine hA.spl (fun hs91 hA => ?_) (fun hs91 hA => ?_)
         ·skip
          refine wpList_nil ?_
          refine hK18 _ _ ?_
          clear hK18
          refine cond_t hA rfl ?_
          refine wp_seq_k fun K19 hK19 => ?_
          refine wp_region_lit ?_
          refine mv hA fun a hA => ?_
          refine sl hA (lo_bs (f := B8) (e := 5) ([]) hH rfl rfl (fun w => by kernel_rfl)) rfl ?_
          clear hH; rintro v_t94 w ⟨N_t94, hO_t94, hH⟩ a hA
          refine mv hA fun a hA => ?_
          refine mv hA fun a hA => ?_
          refine sq hA (q_idx1 (i) Tryd.underlying80 ti22 rfl rfl (by first | omega | rfl) (RdR.shp hro) (by first | omega | (simp; done) | (simp; omega) | (rw [List.length_map]; assumption) | assumption | rfl | (simp [*]; done) | (simp [*]; omega))) rfl fun a hA => ?_
          have hx_t98 := hro
          obtain ⟨vs_t98, hvl_t98, hvo_t98, hvr_t98⟩ := hx_t98
          refine sq hA (q_loadR Tryd.underlying22 rfl rfl (hH.rd hvo_t98) (by first | omega | (simp; done) | (simp; omega) | (rw [List.length_map]; assumption) | assumption | rfl | (simp [*]; done) | (simp [*]; omega)) (getD_some' vs_t98 nilV (by first | omega | (simp; done) | (simp; omega) | (rw [List.length_map]; assumption) | assumption | rfl | (simp [*]; done) | (simp [*]; omega)))) rfl fun a hA => ?_
          refine sl hA (lo_appm hH Tryd.underlying22 Tryd.underlying22 (.inl rfl) ti5 rfl rfl rfl hO_t94 (Rd.src (hH.rd (hvr_t98 (i) (by first | omega | (simp; done) | (simp; omega) | (rw [List.length_map]; assumption) | assumption | rfl | (simp [*]; done) | (simp [*]; omega))))) (one_B8 _) (by first | omega | (simp; done) | (simp; omega)) (by first | omega | (simp; done) | (simp; omega))) rfl ?_
          clear hH; rintro v_t99 w ⟨N_t99, hO_t99, hH⟩ a hA
          replace hH := hH.pick [5, 0, 1, 2, 3, 4, 6, 7] (Hs' := [_, _, _, _, _, _, _, _]) rfl
          refine sl hA (lo_call fn48 rfl (hear_b (hg.mono0 hH) key hkey s hsd n h hR b_w x did N_w hW_w (hg.ng NG.nil hH) _ _ (Own.rdM hO_t99 (Ns1 := [_]) hH 0 rfl) (by first | omega | (simp; done) | (simp; omega)) D hD (by omega) (HS.handed (Ns1 := [_]) hH))) rfl ?_
          rintro _ w ⟨v_t100, N_t100, N_w, rfl, hO_t100, hW_w, hC⟩ a hA
          replace hH := HS.call (Ns1 := [_]) hH hC
          clear hC
          refine mv hA fun a hA => ?_
          refine sq hA (q_extract rfl rfl) rfl fun a hA => ?_
          refine sq hA (q_extract rfl rfl) rfl fun a hA => ?_
          refine asg hA fun a hA => ?_
          refine asg hA fun a hA => ?_
          refine wpList_nil ?_
          refine hK19 _ _ ?_
          clear hK19
          refine wp_seq_k fun K20 hK20 => ?_
          refine wp_region_lit ?_
          refine mv hA fun a hA => ?_
          refine sq hA (q_eqlI (n := 0) rfl rfl) rfl fun a hA => ?_
          replace hA := hA.decF (by omega)
          refine mv hA fun a hA => ?_
          refine gq hA rfl rfl (q_move rfl) rfl fun a hA => ?_
          refine gq hA rfl rfl (q_len Tryd.underlying22 rfl (Own.shp hO_t100)) rfl fun a hA => ?_
          refine gq hA rfl rfl (q_neqI (n := 0) rfl rfl) rfl fun a hA => ?_
          replace hA := hA.decF (by exact fun h => h rfl)
          refine sq hA (q_pick_f rfl rfl) rfl fun a hA => ?_
          refine wpList_nil ?_
          refine hK20 _ _ ?_
          clear hK20
          refine cond_f hA rfl ?_
          refine wp_skip ?_
          refine hK15 _ _ ?_
          clear hK15
          refine wp_seq_k fun K21 hK21 => ?_
          refine wp_region_lit ?_
          refine mv hA fun a hA => ?_
          refine mv hA fun a hA => ?_
          refine sq hA (q_len Tryd.underlying79 rfl (Rd.shp hr.1)) rfl fun a hA => ?_
          refine sq hA (q_lssI rfl rfl) rfl fun a hA => ?_
          refine hA.spl (fun hs113 hA => ?_) (fun hs113 hA => ?_)
          ·skip
           obtain ⟨e, hem, hE39, hE37, hu, hx, hn, hb⟩ := hr.get (i := i) (by omega)
           have he : HdOk [] w0 e := ⟨hu, hx, hn, hb⟩
           refine wpList_nil ?_
           refine hK21 _ _ ?_
           clear hK21
           refine cond_t hA rfl ?_
           refine wp_seq_k fun K22 hK22 => ?_
           refine any_go mixed (fun j => !(Nat.beq j 5)) hH ?_
           clear hH; intro w hH
           have hS := hH
           refine any_l 11 ?_
           refine r0 hA 0 1 rfl hS (fun w hH => (q_loadW hH 6 rfl Tryd.underlying24 rfl ti24 rfl (by first | omega | (simp; done) | (simp; omega) | (rw [List.length_map]; assumption) | assumption | rfl | (simp [*]; done) | (simp [*]; omega)))) fun a hA => ?_
           refine p0 hA 1 3 rfl (fun w => (q_move rfl)) fun a hA => ?_
           refine p0 hA 2 7 rfl (fun w => (q_move rfl)) fun a hA => ?_
           refine p0 hA 3 15 rfl (fun w => (q_idxk (i) Tryd.underlying79 ti90 rfl rfl (by first | omega | rfl) (Rd.shp hr.1) (by first | omega | (simp; done) | (simp; omega) | (rw [List.length_map]; assumption) | assumption | rfl | (simp [*]; done) | (simp [*]; omega)))) fun a hA => ?_
           refine r0 hA 4 31 rfl hS (fun w hH => (q_loadRs Tryd.underlying90 rfl ti90 rfl (hH.rd hr.1) (by omega) _ hE39)) fun a hA => ?_
           refine a1n hA 5 63 rfl (lo_call fn49 rfl (bytesOf_any (hg.mono0 hH) _ (by first | exact hkey | exact hnn | exact hDn | exact hn2 | (first | assumption | (rw [List.length_map]; assumption) | rfl | exact sha_length _ | (simp; done) | (simp [*]; done) | omega)) e (HdOk.mv hH he))) ?_
           rintro _ w ⟨v_t120, N_t120, l_t120, b_t120, rfl, hO_t120, hl_t120, hC⟩
           replace hH := HS.call0 hH hC
           clear hC
           obtain ⟨D0, hD0⟩ : ∃ D, D = decO key l_t120 := ⟨_, rfl⟩
           obtain ⟨R, hRR⟩ : ∃ R, R = hearD s n h x did l_t120 D0 := ⟨_, rfl⟩
           intro a hA
           refine p0 hA 6 127 rfl (fun w => (q_move rfl)) fun a hA => ?_
           refine p0 hA 7 255 rfl (fun w => (q_extract rfl rfl)) fun a hA => ?_
           refine p0 hA 8 511 rfl (fun w => (q_extract rfl rfl)) fun a hA => ?_
           refine hA.spl (fun hs122 hA => ?_) (fun hs122 hA => ?_)
           ·skip
            refine p0 hA 9 1023 rfl (fun w => (q_assign rfl)) fun a hA => ?_
            refine p0 hA 10 2047 rfl (fun w => (q_assign rfl)) fun a hA => ?_
            refine a_end (by kernel_rfl) ?_ _
            refine hK22 _ _ ?_
            clear hK22
            refine wp_seq_k fun K23 hK23 => ?_
            refine wp_seq_k fun K24 hK24 => ?_
            refine wp_region_lit ?_
            refine mv hA fun a hA => ?_
            refine sq hA (q_not rfl) rfl fun a hA => ?_
            refine wpList_nil ?_
            refine hK24 _ _ ?_
            clear hK24
            refine cond_f hA rfl ?_
            refine wp_skip ?_
            refine hK23 _ _ ?_
            clear hK23
            refine wp_seq_k fun K25 hK25 => ?_
            refine wp_region_lit ?_
            refine mv hA fun a hA => ?_
            refine sl hA (lo_bs (f := B8) (e := 5) ([]) hH rfl rfl (fun w => by kernel_rfl)) rfl ?_
            clear hH; rintro v_t127 w ⟨N_t127, hO_t127, hH⟩ a hA
            refine mv hA fun a hA => ?_
            refine sl hA (lo_appm hH Tryd.underlying22 Tryd.underlying22 (.inl rfl) ti5 rfl rfl rfl hO_t127 (Rd.src (Own.rd0 hO_t120 hH 1 rfl)) (one_B8 _) (by first | omega | (simp; done) | (simp; omega)) (by first | omega | (simp; done) | (simp; omega))) rfl ?_
            clear hH; rintro v_t129 w ⟨N_t129, hO_t129, hH⟩ a hA
            replace hH := hH.pick [2, 0, 1, 3, 4, 5, 6, 7, 8, 9, 10] (Hs' := [_, _, _, _, _, _, _, _, _, _, _]) rfl
            refine sl hA (lo_call fn48 rfl (hear_r (hg.mono0 hH) key hkey s hsd n h hR b_w x did N_w hW_w (hg.ng NG.nil hH) _ _ (Own.rdM hO_t129 (Ns1 := [_]) hH 0 rfl) (by first | omega | (simp; done) | (simp; omega)) D0 hD0 hRR (HS.handed (Ns1 := [_]) hH))) rfl ?_
            rintro _ w ⟨v_t130, N_t130, N_w, rfl, hO_t130, hl_t130, hW_w, hC⟩ a hA
            replace hH := HS.call (Ns1 := [_]) hH hC
            clear hC
            refine mv hA fun a hA => ?_
            refine sq hA (q_extract rfl rfl) rfl fun a hA => ?_
            refine sq hA (q_extract rfl rfl) rfl fun a hA => ?_
            refine asg hA fun a hA => ?_
            refine asg hA fun a hA => ?_
            refine wpList_nil ?_
            refine hK25 _ _ ?_
            clear hK25
            refine wp_seq_k fun K26 hK26 => ?_
            refine wp_region_lit ?_
            refine mv hA fun a hA => ?_
            refine sl hA (lo_bs (f := B8) (e := 5) ([]) hH rfl rfl (fun w => by kernel_rfl)) rfl ?_
            clear hH; rintro v_t135 w ⟨N_t135, hO_t135, hH⟩ a hA
            refine mv hA fun a hA => ?_
            refine sl hA (lo_appm hH Tryd.underlying22 Tryd.underlying22 (.inl rfl) ti5 rfl rfl rfl hO_t135 (Rd.src (Own.rd0 hO_t120 hH 4 rfl)) (one_B8 _) (by first | omega | (simp; done) | (simp; omega)) (by first | omega | (simp; done) | (simp; omega))) rfl ?_
            clear hH; rintro v_t137 w ⟨N_t137, hO_t137, hH⟩ a hA
            replace hH := hH.pick [11, 0, 1, 2, 3, 4, 5, 6, 7, 8, 9, 10, 12] (Hs' := [_, _, _, _, _, _, _, _, _, _, _, _, _]) rfl
            refine sl hA (lo_call fn48 rfl (hear_r (hg.mono0 hH) key hkey s hsd n h hR b_v x did N_v hW_v (hg.ng NG.nil hH) _ _ (Own.rdM hO_t137 (Ns1 := [_]) hH 0 rfl) (by first | omega | (simp; done) | (simp; omega)) D0 hD0 hRR (HS.handed (Ns1 := [_]) hH))) rfl ?_
            rintro _ w ⟨v_t138, N_t138, N_v, rfl, hO_t138, hl_t138, hW_v, hC⟩ a hA
            replace hH := HS.call (Ns1 := [_]) hH hC
            clear hC
            refine mv hA fun a hA => ?_
            refine sq hA (q_extract rfl rfl) rfl fun a hA => ?_
            refine sq hA (q_extract rfl rfl) rfl fun a hA => ?_
            refine asg hA fun a hA => ?_
            refine asg hA fun a hA => ?_
            refine wpList_nil ?_
            refine hK26 _ _ ?_
            clear hK26
            refine wp_seq_k fun K27 hK27 => ?_
            refine wp_region_lit ?_
            refine mv hA fun a hA => ?_
            refine mv hA fun a hA => ?_
            refine sq hA (q_neqI rfl rfl) rfl fun a hA => ?_
            replace hA := hA.decF (by exact fun h => h rfl)
            refine mv hA fun a hA => ?_
            refine gq hA rfl rfl (q_move rfl) rfl fun a hA => ?_
            refine gq hA rfl rfl (q_move rfl) rfl fun a hA => ?_
            refine gl hA rfl rfl (lo_call fn16 rfl (same_any _ _ _ _ (Own.rd0 hO_t130 hH 4 rfl) (Own.rd0 hO_t138 hH 1 rfl) (by first | omega | (simp; done) | (simp; omega)) (by first | omega | (simp; done) | (simp; omega)))) rfl ?_
            rintro _ w ⟨rfl, hC⟩ a hA
            replace hH := HS.call0 hH hC
            clear hC
            replace hA := hA.decT (by rfl)
            refine gq hA rfl rfl (q_not rfl) rfl fun a hA => ?_
            refine sq hA (q_pick_f rfl rfl) rfl fun a hA => ?_
            refine wpList_nil ?_
            refine hK27 _ _ ?_
            clear hK27
            refine cond_f hA rfl ?_
            refine wp_skip ?_
            refine block_normal ?_
            refine hK14 _ _ ?_
            clear hK14
            refine wp_region_lit ?_
            refine mv hA fun a hA => ?_
            refine sq hA (q_addI (n := 1) rfl rfl (by omega)) rfl fun a hA => ?_
            refine asg hA fun a hA => ?_
            refine wpList_nil ?_
            replace hH := hH.pick [12, 3, 0, 13, 1, 2, 4, 5, 6, 7, 8, 9, 10, 11] (Hs' := [_, _, _, _, _, _, _, _, _, _, _, _, _, _]) rfl
            replace hH := hH.pick [0, 1, 2, 3] (Hs' := [_, _, _, _]) rfl
            exact ⟨_, by omega, i + 1, R.2.1, R.2.2, N_w, N_v, hA.sub ⟨rfl, rfl, rfl, rfl, rfl, rfl, rfl, rfl, rfl, trivial⟩, hH, by omega, by exact hW_w, by exact hW_v, rfl⟩
           ·skip
            refine p0 hA 9 1023 rfl (fun w => (q_assign rfl)) fun a hA => ?_
            refine p0 hA 10 2047 rfl (fun w => (q_assign rfl)) fun a hA => ?_
            refine a_end (by kernel_rfl) ?_ _
            refine hK22 _ _ ?_
            clear hK22
            refine wp_seq_k fun K28 hK28 => ?_
            refine wp_seq_k fun K29 hK29 => ?_
            refine wp_region_lit ?_
            refine mv hA fun a hA => ?_
            refine sq hA (q_not rfl) rfl fun a hA => ?_
            refine wpList_nil ?_
            refine hK29 _ _ ?_
            clear hK29
            refine cond_t hA rfl ?_
            refine wp_exit ?_
            refine then_exit ?_
            refine exit_here ?_
            refine hK14 _ _ ?_
            clear hK14
            refine wp_region_lit ?_
            refine mv hA fun a hA => ?_
            refine sq hA (q_addI (n := 1) rfl rfl (by omega)) rfl fun a hA => ?_
            refine asg hA fun a hA => ?_
            refine wpList_nil ?_
            replace hH := hH.pick [7, 1, 8, 9, 0, 2, 3, 4, 5, 6] (Hs' := [_, _, _, _, _, _, _, _, _, _]) rfl
            replace hH := hH.pick [0, 1, 2, 3] (Hs' := [_, _, _, _]) rfl
            exact ⟨_, by omega, i + 1, x, did, N_w, N_v, hA.sub ⟨rfl, rfl, rfl, rfl, rfl, rfl, rfl, rfl, rfl, trivial⟩, hH, by omega, by exact hW_w, by exact hW_v, rfl⟩
          ·skip
           refine wpList_nil ?_
           refine hK21 _ _ ?_
           clear hK21
           refine cond_f hA rfl ?_
           refine wp_skip ?_
           refine block_normal ?_
           refine hK14 _ _ ?_
           clear hK14
           refine wp_region_lit ?_
           refine mv hA fun a hA => ?_
           refine sq hA (q_addI (n := 1) rfl rfl (by omega)) rfl fun a hA => ?_
           refine asg hA fun a hA => ?_
           refine wpList_nil ?_
           replace hH := hH.pick [6, 0, 7, 8, 1, 2, 3, 4, 5] (Hs' := [_, _, _, _, _, _, _, _, _]) rfl
           replace hH := hH.pick [0, 1, 2, 3] (Hs' := [_, _, _, _]) rfl
           exact ⟨_, by omega, i + 1, x, did, N_w, N_v, hA.sub ⟨rfl, rfl, rfl, rfl, rfl, rfl, rfl, rfl, rfl, trivial⟩, hH, by omega, by exact hW_w, by exact hW_v, rfl⟩
         ·skip
          refine wpList_nil ?_
          refine hK18 _ _ ?_
          clear hK18
          refine cond_f hA rfl ?_
          refine wp_skip ?_
          refine hK15 _ _ ?_
          clear hK15
          refine wp_seq_k fun K30 hK30 => ?_
          refine wp_region_lit ?_
          refine mv hA fun a hA => ?_
          refine mv hA fun a hA => ?_
          refine sq hA (q_len Tryd.underlying79 rfl (Rd.shp hr.1)) rfl fun a hA => ?_
          refine sq hA (q_lssI rfl rfl) rfl fun a hA => ?_
          refine hA.spl (fun hs113 hA => ?_) (fun hs113 hA => ?_)
          ·skip
           obtain ⟨e, hem, hE39, hE37, hu, hx, hn, hb⟩ := hr.get (i := i) (by omega)
           have he : HdOk [] w0 e := ⟨hu, hx, hn, hb⟩
           refine wpList_nil ?_
           refine hK30 _ _ ?_
           clear hK30
           refine cond_t hA rfl ?_
           refine wp_seq_k fun K31 hK31 => ?_
           refine any_go mixed (fun j => !(Nat.beq j 5)) hH ?_
           clear hH; intro w hH
           have hS := hH
           refine any_l 11 ?_
           refine r0 hA 0 1 rfl hS (fun w hH => (q_loadW hH 3 rfl Tryd.underlying24 rfl ti24 rfl (by first | omega | (simp; done) | (simp; omega) | (rw [List.length_map]; assumption) | assumption | rfl | (simp [*]; done) | (simp [*]; omega)))) fun a hA => ?_
           refine p0 hA 1 3 rfl (fun w => (q_move rfl)) fun a hA => ?_
           refine p0 hA 2 7 rfl (fun w => (q_move rfl)) fun a hA => ?_
           refine p0 hA 3 15 rfl (fun w => (q_idxk (i) Tryd.underlying79 ti90 rfl rfl (by first | omega | rfl) (Rd.shp hr.1) (by first | omega | (simp; done) | (simp; omega) | (rw [List.length_map]; assumption) | assumption | rfl | (simp [*]; done) | (simp [*]; omega)))) fun a hA => ?_
           refine r0 hA 4 31 rfl hS (fun w hH => (q_loadRs Tryd.underlying90 rfl ti90 rfl (hH.rd hr.1) (by omega) _ hE39)) fun a hA => ?_
           refine a1n hA 5 63 rfl (lo_call fn49 rfl (bytesOf_any (hg.mono0 hH) _ (by first | exact hkey | exact hnn | exact hDn | exact hn2 | (first | assumption | (rw [List.length_map]; assumption) | rfl | exact sha_length _ | (simp; done) | (simp [*]; done) | omega)) e (HdOk.mv hH he))) ?_
           rintro _ w ⟨v_t120, N_t120, l_t120, b_t120, rfl, hO_t120, hl_t120, hC⟩
           replace hH := HS.call0 hH hC
           clear hC
           obtain ⟨D0, hD0⟩ : ∃ D, D = decO key l_t120 := ⟨_, rfl⟩
           obtain ⟨R, hRR⟩ : ∃ R, R = hearD s n h x did l_t120 D0 := ⟨_, rfl⟩
           intro a hA
           refine p0 hA 6 127 rfl (fun w => (q_move rfl)) fun a hA => ?_
           refine p0 hA 7 255 rfl (fun w => (q_extract rfl rfl)) fun a hA => ?_
           refine p0 hA 8 511 rfl (fun w => (q_extract rfl rfl)) fun a hA => ?_
           refine hA.spl (fun hs122 hA => ?_) (fun hs122 hA => ?_)
           ·skip
            refine p0 hA 9 1023 rfl (fun w => (q_assign rfl)) fun a hA => ?_
            refine p0 hA 10 2047 rfl (fun w => (q_assign rfl)) fun a hA => ?_
            refine a_end (by kernel_rfl) ?_ _
            refine hK31 _ _ ?_
            clear hK31
            refine wp_seq_k fun K32 hK32 => ?_
            refine wp_seq_k fun K33 hK33 => ?_
            refine wp_region_lit ?_
            refine mv hA fun a hA => ?_
            refine sq hA (q_not rfl) rfl fun a hA => ?_
            refine wpList_nil ?_
            refine hK33 _ _ ?_
            clear hK33
            refine cond_f hA rfl ?_
            refine wp_skip ?_
            refine hK32 _ _ ?_
            clear hK32
            refine wp_seq_k fun K34 hK34 => ?_
            refine wp_region_lit ?_
            refine mv hA fun a hA => ?_
            refine sl hA (lo_bs (f := B8) (e := 5) ([]) hH rfl rfl (fun w => by kernel_rfl)) rfl ?_
            clear hH; rintro v_t127 w ⟨N_t127, hO_t127, hH⟩ a hA
            refine mv hA fun a hA => ?_
            refine sl hA (lo_appm hH Tryd.underlying22 Tryd.underlying22 (.inl rfl) ti5 rfl rfl rfl hO_t127 (Rd.src (Own.rd0 hO_t120 hH 1 rfl)) (one_B8 _) (by first | omega | (simp; done) | (simp; omega)) (by first | omega | (simp; done) | (simp; omega))) rfl ?_
            clear hH; rintro v_t129 w ⟨N_t129, hO_t129, hH⟩ a hA
            replace hH := hH.pick [6, 0, 1, 2, 3, 4, 5, 7, 8] (Hs' := [_, _, _, _, _, _, _, _, _]) rfl
            refine sl hA (lo_call fn48 rfl (hear_r (hg.mono0 hH) key hkey s hsd n h hR b_w x did N_w hW_w (hg.ng NG.nil hH) _ _ (Own.rdM hO_t129 (Ns1 := [_]) hH 0 rfl) (by first | omega | (simp; done) | (simp; omega)) D0 hD0 hRR (HS.handed (Ns1 := [_]) hH))) rfl ?_
            rintro _ w ⟨v_t130, N_t130, N_w, rfl, hO_t130, hl_t130, hW_w, hC⟩ a hA
            replace hH := HS.call (Ns1 := [_]) hH hC
            clear hC
            refine mv hA fun a hA => ?_
            refine sq hA (q_extract rfl rfl) rfl fun a hA => ?_
            refine sq hA (q_extract rfl rfl) rfl fun a hA => ?_
            refine asg hA fun a hA => ?_
            refine asg hA fun a hA => ?_
            refine wpList_nil ?_
            refine hK34 _ _ ?_
            clear hK34
            refine wp_seq_k fun K35 hK35 => ?_
            refine wp_region_lit ?_
            refine mv hA fun a hA => ?_
            refine sl hA (lo_bs (f := B8) (e := 5) ([]) hH rfl rfl (fun w => by kernel_rfl)) rfl ?_
            clear hH; rintro v_t135 w ⟨N_t135, hO_t135, hH⟩ a hA
            refine mv hA fun a hA => ?_
            refine sl hA (lo_appm hH Tryd.underlying22 Tryd.underlying22 (.inl rfl) ti5 rfl rfl rfl hO_t135 (Rd.src (Own.rd0 hO_t120 hH 4 rfl)) (one_B8 _) (by first | omega | (simp; done) | (simp; omega)) (by first | omega | (simp; done) | (simp; omega))) rfl ?_
            clear hH; rintro v_t137 w ⟨N_t137, hO_t137, hH⟩ a hA
            replace hH := hH.pick [9, 0, 1, 2, 3, 4, 5, 6, 7, 8, 10] (Hs' := [_, _, _, _, _, _, _, _, _, _, _]) rfl
            refine sl hA (lo_call fn48 rfl (hear_r (hg.mono0 hH) key hkey s hsd n h hR b_v x did N_v hW_v (hg.ng NG.nil hH) _ _ (Own.rdM hO_t137 (Ns1 := [_]) hH 0 rfl) (by first | omega | (simp; done) | (simp; omega)) D0 hD0 hRR (HS.handed (Ns1 := [_]) hH))) rfl ?_
            rintro _ w ⟨v_t138, N_t138, N_v, rfl, hO_t138, hl_t138, hW_v, hC⟩ a hA
            replace hH := HS.call (Ns1 := [_]) hH hC
            clear hC
            refine mv hA fun a hA => ?_
            refine sq hA (q_extract rfl rfl) rfl fun a hA => ?_
            refine sq hA (q_extract rfl rfl) rfl fun a hA => ?_
            refine asg hA fun a hA => ?_
            refine asg hA fun a hA => ?_
            refine wpList_nil ?_
            refine hK35 _ _ ?_
            clear hK35
            refine wp_seq_k fun K36 hK36 => ?_
            refine wp_region_lit ?_
            refine mv hA fun a hA => ?_
            refine mv hA fun a hA => ?_
            refine sq hA (q_neqI rfl rfl) rfl fun a hA => ?_
            replace hA := hA.decF (by exact fun h => h rfl)
            refine mv hA fun a hA => ?_
            refine gq hA rfl rfl (q_move rfl) rfl fun a hA => ?_
            refine gq hA rfl rfl (q_move rfl) rfl fun a hA => ?_
            refine gl hA rfl rfl (lo_call fn16 rfl (same_any _ _ _ _ (Own.rd0 hO_t130 hH 4 rfl) (Own.rd0 hO_t138 hH 1 rfl) (by first | omega | (simp; done) | (simp; omega)) (by first | omega | (simp; done) | (simp; omega)))) rfl ?_
            rintro _ w ⟨rfl, hC⟩ a hA
            replace hH := HS.call0 hH hC
            clear hC
            replace hA := hA.decT (by rfl)
            refine gq hA rfl rfl (q_not rfl) rfl fun a hA => ?_
            refine sq hA (q_pick_f rfl rfl) rfl fun a hA => ?_
            refine wpList_nil ?_
            refine hK36 _ _ ?_
            clear hK36
            refine cond_f hA rfl ?_
            refine wp_skip ?_
            refine block_normal ?_
            refine hK14 _ _ ?_
            clear hK14
            refine wp_region_lit ?_
            refine mv hA fun a hA => ?_
            refine sq hA (q_addI (n := 1) rfl rfl (by omega)) rfl fun a hA => ?_
            refine asg hA fun a hA => ?_
            refine wpList_nil ?_
            replace hH := hH.pick [10, 3, 0, 11, 1, 2, 4, 5, 6, 7, 8, 9] (Hs' := [_, _, _, _, _, _, _, _, _, _, _, _]) rfl
            replace hH := hH.pick [0, 1, 2, 3] (Hs' := [_, _, _, _]) rfl
            exact ⟨_, by omega, i + 1, R.2.1, R.2.2, N_w, N_v, hA.sub ⟨rfl, rfl, rfl, rfl, rfl, rfl, rfl, rfl, rfl, trivial⟩, hH, by omega, by exact hW_w, by exact hW_v, rfl⟩
           ·skip
            refine p0 hA 9 1023 rfl (fun w => (q_assign rfl)) fun a hA => ?_
            refine p0 hA 10 2047 rfl (fun w => (q_assign rfl)) fun a hA => ?_
            refine a_end (by kernel_rfl) ?_ _
            refine hK31 _ _ ?_
            clear hK31
            refine wp_seq_k fun K37 hK37 => ?_
            refine wp_seq_k fun K38 hK38 => ?_
            refine wp_region_lit ?_
            refine mv hA fun a hA => ?_
            refine sq hA (q_not rfl) rfl fun a hA => ?_
            refine wpList_nil ?_
            refine hK38 _ _ ?_
            clear hK38
            refine cond_t hA rfl ?_
            refine wp_exit ?_
            refine then_exit ?_
            refine exit_here ?_
            refine hK14 _ _ ?_
            clear hK14
            refine wp_region_lit ?_
            refine mv hA fun a hA => ?_
            refine sq hA (q_addI (n := 1) rfl rfl (by omega)) rfl fun a hA => ?_
            refine asg hA fun a hA => ?_
            refine wpList_nil ?_
            replace hH := hH.pick [4, 5, 6, 7, 0, 1, 2, 3] (Hs' := [_, _, _, _, _, _, _, _]) rfl
            replace hH := hH.pick [0, 1, 2, 3] (Hs' := [_, _, _, _]) rfl
            exact ⟨_, by omega, i + 1, x, did, N_w, N_v, hA.sub ⟨rfl, rfl, rfl, rfl, rfl, rfl, rfl, rfl, rfl, trivial⟩, hH, by omega, by exact hW_w, by exact hW_v, rfl⟩
          ·skip
           refine wpList_nil ?_
           refine hK30 _ _ ?_
           clear hK30
           refine cond_f hA rfl ?_
           refine wp_skip ?_
           refine block_normal ?_
           refine hK14 _ _ ?_
           clear hK14
           refine wp_region_lit ?_
           refine mv hA fun a hA => ?_
           refine sq hA (q_addI (n := 1) rfl rfl (by omega)) rfl fun a hA => ?_
           refine asg hA fun a hA => ?_
           refine wpList_nil ?_
           replace hH := hH.pick [3, 4, 5, 6, 0, 1, 2] (Hs' := [_, _, _, _, _, _, _]) rfl
           replace hH := hH.pick [0, 1, 2, 3] (Hs' := [_, _, _, _]) rfl
           exact ⟨_, by omega, i + 1, x, did, N_w, N_v, hA.sub ⟨rfl, rfl, rfl, rfl, rfl, rfl, rfl, rfl, rfl, trivial⟩, hH, by omega, by exact hW_w, by exact hW_v, rfl⟩
        ·skip
         refine o1 hA 9 543 rfl (lo_allocA hH ti64) ?_
         clear hH; rintro _ w ⟨b_t16, rfl, hH⟩
         replace hS := hH.pick [1, 2, 3, 4] (Hs' := [_, _, _, _]) rfl
         refine ⟨fun _ _ => hS, ?_⟩
         intro a hA
         refine a1n hA 5 575 rfl (lo_call fn40 rfl (refdecw_g (hg.mono0 hH) _ (by first | exact hkey | exact hnn | exact hDn | exact hn2 | (first | assumption | (rw [List.length_map]; assumption) | rfl | exact sha_length _ | (simp; done) | (simp [*]; done) | omega)) _ _ (hH.rd (hvr_t86 (i) (by first | omega | (simp; done) | (simp; omega) | (rw [List.length_map]; assumption) | assumption | rfl | (simp [*]; done) | (simp [*]; omega)))) (by first | omega | (simp; done) | (simp; omega)) hD)) ?_
         rintro _ w ⟨v_at87, v_bt87, N_at87, N_bt87, rfl, hO_at87, hO_bt87, hC⟩
         replace hH := HS.call0 hH hC
         clear hC
         intro a hA
         refine p0 hA 6 639 rfl (fun w => (q_move rfl)) fun a hA => ?_
         refine p0 hA 7 767 rfl (fun w => (q_extract rfl rfl)) fun a hA => ?_
         refine p0 hA 8 1023 rfl (fun w => (q_extract rfl rfl)) fun a hA => ?_
         replace hH := hH.pick [2, 0, 1, 3, 4, 5, 6] (Hs' := [_, _, _, _, _, _, _]) rfl
         refine a0n hA 10 2047 rfl (lo_storeAm hH ti64 rfl rfl (by first | rfl | exact ordC_length hDn) (by first | rfl | exact ordC_length hDn) (ordC_one (Own.one hO_at87) (Own.one hO_bt87))) ?_
         clear hH; rintro _ w hH
         refine p0 hA 11 4095 rfl (fun w => (q_assign rfl)) fun a hA => ?_
         refine a_end (by kernel_rfl) ?_ _
         refine hK17 _ _ ?_
         clear hK17
         refine wp_seq_k fun K39 hK39 => ?_
         refine wp_region_lit ?_
         refine mv hA fun a hA => ?_
         refine sq hA (q_neqI (n := 0) rfl rfl) rfl fun a hA => ?_
         refine hA.spl (fun hs91 hA => ?_) (fun hs91 hA => ?_)
         ·skip
          refine wpList_nil ?_
          refine hK39 _ _ ?_
          clear hK39
          refine cond_t hA rfl ?_
          refine wp_seq_k fun K40 hK40 => ?_
          refine wp_region_lit ?_
          refine mv hA fun a hA => ?_
          refine sl hA (lo_bs (f := B8) (e := 5) ([]) hH rfl rfl (fun w => by kernel_rfl)) rfl ?_
          clear hH; rintro v_t94 w ⟨N_t94, hO_t94, hH⟩ a hA
          refine mv hA fun a hA => ?_
          refine mv hA fun a hA => ?_
          refine sq hA (q_idx1 (i) Tryd.underlying80 ti22 rfl rfl (by first | omega | rfl) (RdR.shp hro) (by first | omega | (simp; done) | (simp; omega) | (rw [List.length_map]; assumption) | assumption | rfl | (simp [*]; done) | (simp [*]; omega))) rfl fun a hA => ?_
          have hx_t98 := hro
          obtain ⟨vs_t98, hvl_t98, hvo_t98, hvr_t98⟩ := hx_t98
          refine sq hA (q_loadR Tryd.underlying22 rfl rfl (hH.rd hvo_t98) (by first | omega | (simp; done) | (simp; omega) | (rw [List.length_map]; assumption) | assumption | rfl | (simp [*]; done) | (simp [*]; omega)) (getD_some' vs_t98 nilV (by first | omega | (simp; done) | (simp; omega) | (rw [List.length_map]; assumption) | assumption | rfl | (simp [*]; done) | (simp [*]; omega)))) rfl fun a hA => ?_
          refine sl hA (lo_appm hH Tryd.underlying22 Tryd.underlying22 (.inl rfl) ti5 rfl rfl rfl hO_t94 (Rd.src (hH.rd (hvr_t98 (i) (by first | omega | (simp; done) | (simp; omega) | (rw [List.length_map]; assumption) | assumption | rfl | (simp [*]; done) | (simp [*]; omega))))) (one_B8 _) (by first | omega | (simp; done) | (simp; omega)) (by first | omega | (simp; done) | (simp; omega))) rfl ?_
          clear hH; rintro v_t99 w ⟨N_t99, hO_t99, hH⟩ a hA
          replace hH := hH.pick [5, 0, 1, 2, 3, 4, 6, 7] (Hs' := [_, _, _, _, _, _, _, _]) rfl
          refine sl hA (lo_call fn48 rfl (hear_b (hg.mono0 hH) key hkey s hsd n h hR b_w x did N_w hW_w (hg.ng NG.nil hH) _ _ (Own.rdM hO_t99 (Ns1 := [_]) hH 0 rfl) (by first | omega | (simp; done) | (simp; omega)) D hD (by omega) (HS.handed (Ns1 := [_]) hH))) rfl ?_
          rintro _ w ⟨v_t100, N_t100, N_w, rfl, hO_t100, hW_w, hC⟩ a hA
          replace hH := HS.call (Ns1 := [_]) hH hC
          clear hC
          refine mv hA fun a hA => ?_
          refine sq hA (q_extract rfl rfl) rfl fun a hA => ?_
          refine sq hA (q_extract rfl rfl) rfl fun a hA => ?_
          refine asg hA fun a hA => ?_
          refine asg hA fun a hA => ?_
          refine wpList_nil ?_
          refine hK40 _ _ ?_
          clear hK40
          refine wp_seq_k fun K41 hK41 => ?_
          refine wp_region_lit ?_
          refine mv hA fun a hA => ?_
          refine sq hA (q_eqlI (n := 0) rfl rfl) rfl fun a hA => ?_
          replace hA := hA.decF (by omega)
          refine mv hA fun a hA => ?_
          refine gq hA rfl rfl (q_move rfl) rfl fun a hA => ?_
          refine gq hA rfl rfl (q_len Tryd.underlying22 rfl (Own.shp hO_t100)) rfl fun a hA => ?_
          refine gq hA rfl rfl (q_neqI (n := 0) rfl rfl) rfl fun a hA => ?_
          replace hA := hA.decF (by exact fun h => h rfl)
          refine sq hA (q_pick_f rfl rfl) rfl fun a hA => ?_
          refine wpList_nil ?_
          refine hK41 _ _ ?_
          clear hK41
          refine cond_f hA rfl ?_
          refine wp_skip ?_
          refine hK15 _ _ ?_
          clear hK15
          refine wp_seq_k fun K42 hK42 => ?_
          refine wp_region_lit ?_
          refine mv hA fun a hA => ?_
          refine mv hA fun a hA => ?_
          refine sq hA (q_len Tryd.underlying79 rfl (Rd.shp hr.1)) rfl fun a hA => ?_
          refine sq hA (q_lssI rfl rfl) rfl fun a hA => ?_
          refine hA.spl (fun hs113 hA => ?_) (fun hs113 hA => ?_)
          ·skip
           obtain ⟨e, hem, hE39, hE37, hu, hx, hn, hb⟩ := hr.get (i := i) (by omega)
           have he : HdOk [] w0 e := ⟨hu, hx, hn, hb⟩
           refine wpList_nil ?_
           refine hK42 _ _ ?_
           clear hK42
           refine cond_t hA rfl ?_
           refine wp_seq_k fun K43 hK43 => ?_
           refine any_go mixed (fun j => !(Nat.beq j 5)) hH ?_
           clear hH; intro w hH
           have hS := hH
           refine any_l 11 ?_
           refine r0 hA 0 1 rfl hS (fun w hH => (q_loadW hH 6 rfl Tryd.underlying24 rfl ti24 rfl (by first | omega | (simp; done) | (simp; omega) | (rw [List.length_map]; assumption) | assumption | rfl | (simp [*]; done) | (simp [*]; omega)))) fun a hA => ?_
           refine p0 hA 1 3 rfl (fun w => (q_move rfl)) fun a hA => ?_
           refine p0 hA 2 7 rfl (fun w => (q_move rfl)) fun a hA => ?_
           refine p0 hA 3 15 rfl (fun w => (q_idxk (i) Tryd.underlying79 ti90 rfl rfl (by first | omega | rfl) (Rd.shp hr.1) (by first | omega | (simp; done) | (simp; omega) | (rw [List.length_map]; assumption) | assumption | rfl | (simp [*]; done) | (simp [*]; omega)))) fun a hA => ?_
           refine r0 hA 4 31 rfl hS (fun w hH => (q_loadRs Tryd.underlying90 rfl ti90 rfl (hH.rd hr.1) (by omega) _ hE39)) fun a hA => ?_
           refine a1n hA 5 63 rfl (lo_call fn49 rfl (bytesOf_any (hg.mono0 hH) _ (by first | exact hkey | exact hnn | exact hDn | exact hn2 | (first | assumption | (rw [List.length_map]; assumption) | rfl | exact sha_length _ | (simp; done) | (simp [*]; done) | omega)) e (HdOk.mv hH he))) ?_
           rintro _ w ⟨v_t120, N_t120, l_t120, b_t120, rfl, hO_t120, hl_t120, hC⟩
           replace hH := HS.call0 hH hC
           clear hC
           obtain ⟨D0, hD0⟩ : ∃ D, D = decO key l_t120 := ⟨_, rfl⟩
           obtain ⟨R, hRR⟩ : ∃ R, R = hearD s n h x did l_t120 D0 := ⟨_, rfl⟩
           intro a hA
           refine p0 hA 6 127 rfl (fun w => (q_move rfl)) fun a hA => ?_
           refine p0 hA 7 255 rfl (fun w => (q_extract rfl rfl)) fun a hA => ?_
           refine p0 hA 8 511 rfl (fun w => (q_extract rfl rfl)) fun a hA => ?_
           refine hA.spl (fun hs122 hA => ?_) (fun hs122 hA => ?_)
           ·skip
            refine p0 hA 9 1023 rfl (fun w => (q_assign rfl)) fun a hA => ?_
            refine p0 hA 10 2047 rfl (fun w => (q_assign rfl)) fun a hA => ?_
            refine a_end (by kernel_rfl) ?_ _
            refine hK43 _ _ ?_
            clear hK43
            refine wp_seq_k fun K44 hK44 => ?_
            refine wp_seq_k fun K45 hK45 => ?_
            refine wp_region_lit ?_
            refine mv hA fun a hA => ?_
            refine sq hA (q_not rfl) rfl fun a hA => ?_
            refine wpList_nil ?_
            refine hK45 _ _ ?_
            clear hK45
            refine cond_f hA rfl ?_
            refine wp_skip ?_
            refine hK44 _ _ ?_
            clear hK44
            refine wp_seq_k fun K46 hK46 => ?_
            refine wp_region_lit ?_
            refine mv hA fun a hA => ?_
            refine sl hA (lo_bs (f := B8) (e := 5) ([]) hH rfl rfl (fun w => by kernel_rfl)) rfl ?_
            clear hH; rintro v_t127 w ⟨N_t127, hO_t127, hH⟩ a hA
            refine mv hA fun a hA => ?_
            refine sl hA (lo_appm hH Tryd.underlying22 Tryd.underlying22 (.inl rfl) ti5 rfl rfl rfl hO_t127 (Rd.src (Own.rd0 hO_t120 hH 1 rfl)) (one_B8 _) (by first | omega | (simp; done) | (simp; omega)) (by first | omega | (simp; done) | (simp; omega))) rfl ?_
            clear hH; rintro v_t129 w ⟨N_t129, hO_t129, hH⟩ a hA
            replace hH := hH.pick [2, 0, 1, 3, 4, 5, 6, 7, 8, 9, 10] (Hs' := [_, _, _, _, _, _, _, _, _, _, _]) rfl
            refine sl hA (lo_call fn48 rfl (hear_r (hg.mono0 hH) key hkey s hsd n h hR b_w x did N_w hW_w (hg.ng NG.nil hH) _ _ (Own.rdM hO_t129 (Ns1 := [_]) hH 0 rfl) (by first | omega | (simp; done) | (simp; omega)) D0 hD0 hRR (HS.handed (Ns1 := [_]) hH))) rfl ?_
            rintro _ w ⟨v_t130, N_t130, N_w, rfl, hO_t130, hl_t130, hW_w, hC⟩ a hA
            replace hH := HS.call (Ns1 := [_]) hH hC
            clear hC
            refine mv hA fun a hA => ?_
            refine sq hA (q_extract rfl rfl) rfl fun a hA => ?_
            refine sq hA (q_extract rfl rfl) rfl fun a hA => ?_
            refine asg hA fun a hA => ?_
            refine asg hA fun a hA => ?_
            refine wpList_nil ?_
            refine hK46 _ _ ?_
            clear hK46
            refine wp_seq_k fun K47 hK47 => ?_
            refine wp_region_lit ?_
            refine mv hA fun a hA => ?_
            refine sl hA (lo_bs (f := B8) (e := 5) ([]) hH rfl rfl (fun w => by kernel_rfl)) rfl ?_
            clear hH; rintro v_t135 w ⟨N_t135, hO_t135, hH⟩ a hA
            refine mv hA fun a hA => ?_
            refine sl hA (lo_appm hH Tryd.underlying22 Tryd.underlying22 (.inl rfl) ti5 rfl rfl rfl hO_t135 (Rd.src (Own.rd0 hO_t120 hH 4 rfl)) (one_B8 _) (by first | omega | (simp; done) | (simp; omega)) (by first | omega | (simp; done) | (simp; omega))) rfl ?_
            clear hH; rintro v_t137 w ⟨N_t137, hO_t137, hH⟩ a hA
            replace hH := hH.pick [11, 0, 1, 2, 3, 4, 5, 6, 7, 8, 9, 10, 12] (Hs' := [_, _, _, _, _, _, _, _, _, _, _, _, _]) rfl
            refine sl hA (lo_call fn48 rfl (hear_r (hg.mono0 hH) key hkey s hsd n h hR b_v x did N_v hW_v (hg.ng NG.nil hH) _ _ (Own.rdM hO_t137 (Ns1 := [_]) hH 0 rfl) (by first | omega | (simp; done) | (simp; omega)) D0 hD0 hRR (HS.handed (Ns1 := [_]) hH))) rfl ?_
            rintro _ w ⟨v_t138, N_t138, N_v, rfl, hO_t138, hl_t138, hW_v, hC⟩ a hA
            replace hH := HS.call (Ns1 := [_]) hH hC
            clear hC
            refine mv hA fun a hA => ?_
            refine sq hA (q_extract rfl rfl) rfl fun a hA => ?_
            refine sq hA (q_extract rfl rfl) rfl fun a hA => ?_
            refine asg hA fun a hA => ?_
            refine asg hA fun a hA => ?_
            refine wpList_nil ?_
            refine hK47 _ _ ?_
            clear hK47
            refine wp_seq_k fun K48 hK48 => ?_
            refine wp_region_lit ?_
            refine mv hA fun a hA => ?_
            refine mv hA fun a hA => ?_
            refine sq hA (q_neqI rfl rfl) rfl fun a hA => ?_
            replace hA := hA.decF (by exact fun h => h rfl)
            refine mv hA fun a hA => ?_
            refine gq hA rfl rfl (q_move rfl) rfl fun a hA => ?_
            refine gq hA rfl rfl (q_move rfl) rfl fun a hA => ?_
            refine gl hA rfl rfl (lo_call fn16 rfl (same_any _ _ _ _ (Own.rd0 hO_t130 hH 4 rfl) (Own.rd0 hO_t138 hH 1 rfl) (by first | omega | (simp; done) | (simp; omega)) (by first | omega | (simp; done) | (simp; omega)))) rfl ?_
            rintro _ w ⟨rfl, hC⟩ a hA
            replace hH := HS.call0 hH hC
            clear hC
            replace hA := hA.decT (by rfl)
            refine gq hA rfl rfl (q_not rfl) rfl fun a hA => ?_
            refine sq hA (q_pick_f rfl rfl) rfl fun a hA => ?_
            refine wpList_nil ?_
            refine hK48 _ _ ?_
            clear hK48
            refine cond_f hA rfl ?_
            refine wp_skip ?_
            refine block_normal ?_
            refine hK14 _ _ ?_
            clear hK14
            refine wp_region_lit ?_
            refine mv hA fun a hA => ?_
            refine sq hA (q_addI (n := 1) rfl rfl (by omega)) rfl fun a hA => ?_
            refine asg hA fun a hA => ?_
            refine wpList_nil ?_
            replace hH := hH.pick [12, 3, 0, 13, 1, 2, 4, 5, 6, 7, 8, 9, 10, 11] (Hs' := [_, _, _, _, _, _, _, _, _, _, _, _, _, _]) rfl
            replace hH := hH.pick [0, 1, 2, 3] (Hs' := [_, _, _, _]) rfl
            exact ⟨_, by omega, i + 1, R.2.1, R.2.2, N_w, N_v, hA.sub ⟨rfl, rfl, rfl, rfl, rfl, rfl, rfl, rfl, rfl, trivial⟩, hH, by omega, by exact hW_w, by exact hW_v, rfl⟩
           ·skip
            refine p0 hA 9 1023 rfl (fun w => (q_assign rfl)) fun a hA => ?_
            refine p0 hA 10 2047 rfl (fun w => (q_assign rfl)) fun a hA => ?_
            refine a_end (by kernel_rfl) ?_ _
            refine hK43 _ _ ?_
            clear hK43
            refine wp_seq_k fun K49 hK49 => ?_
            refine wp_seq_k fun K50 hK50 => ?_
            refine wp_region_lit ?_
            refine mv hA fun a hA => ?_
            refine sq hA (q_not rfl) rfl fun a hA => ?_
            refine wpList_nil ?_
            refine hK50 _ _ ?_
            clear hK50
            refine cond_t hA rfl ?_
            refine wp_exit ?_
            refine then_exit ?_
            refine exit_here ?_
            refine hK14 _ _ ?_
            clear hK14
            refine wp_region_lit ?_
            refine mv hA fun a hA => ?_
            refine sq hA (q_addI (n := 1) rfl rfl (by omega)) rfl fun a hA => ?_
            refine asg hA fun a hA => ?_
            refine wpList_nil ?_
            replace hH := hH.pick [7, 1, 8, 9, 0, 2, 3, 4, 5, 6] (Hs' := [_, _, _, _, _, _, _, _, _, _]) rfl
            replace hH := hH.pick [0, 1, 2, 3] (Hs' := [_, _, _, _]) rfl
            exact ⟨_, by omega, i + 1, x, did, N_w, N_v, hA.sub ⟨rfl, rfl, rfl, rfl, rfl, rfl, rfl, rfl, rfl, trivial⟩, hH, by omega, by exact hW_w, by exact hW_v, rfl⟩
          ·skip
           refine wpList_nil ?_
           refine hK42 _ _ ?_
           clear hK42
           refine cond_f hA rfl ?_
           refine wp_skip ?_
           refine block_normal ?_
           refine hK14 _ _ ?_
           clear hK14
           refine wp_region_lit ?_
           refine mv hA fun a hA => ?_
           refine sq hA (q_addI (n := 1) rfl rfl (by omega)) rfl fun a hA => ?_
           refine asg hA fun a hA => ?_
           refine wpList_nil ?_
           replace hH := hH.pick [6, 0, 7, 8, 1, 2, 3, 4, 5] (Hs' := [_, _, _, _, _, _, _, _, _]) rfl
           replace hH := hH.pick [0, 1, 2, 3] (Hs' := [_, _, _, _]) rfl
           exact ⟨_, by omega, i + 1, x, did, N_w, N_v, hA.sub ⟨rfl, rfl, rfl, rfl, rfl, rfl, rfl, rfl, rfl, trivial⟩, hH, by omega, by exact hW_w, by exact hW_v, rfl⟩
         ·skip
          refine wpList_nil ?_
          refine hK39 _ _ ?_
          clear hK39
          refine cond_f hA rfl ?_
          refine wp_skip ?_
          refine hK15 _ _ ?_
          clear hK15
          refine wp_seq_k fun K51 hK51 => ?_
          refine wp_region_lit ?_
          refine mv hA fun a hA => ?_
          refine mv hA fun a hA => ?_
          refine sq hA (q_len Tryd.underlying79 rfl (Rd.shp hr.1)) rfl fun a hA => ?_
          refine sq hA (q_lssI rfl rfl) rfl fun a hA => ?_
          refine hA.spl (fun hs113 hA => ?_) (fun hs113 hA => ?_)
          ·skip
           obtain ⟨e, hem, hE39, hE37, hu, hx, hn, hb⟩ := hr.get (i := i) (by omega)
           have he : HdOk [] w0 e := ⟨hu, hx, hn, hb⟩
           refine wpList_nil ?_
           refine hK51 _ _ ?_
           clear hK51
           refine cond_t hA rfl ?_
           refine wp_seq_k fun K52 hK52 => ?_
           refine any_go mixed (fun j => !(Nat.beq j 5)) hH ?_
           clear hH; intro w hH
           have hS := hH
           refine any_l 11 ?_
           refine r0 hA 0 1 rfl hS (fun w hH => (q_loadW hH 3 rfl Tryd.underlying24 rfl ti24 rfl (by first | omega | (simp; done) | (simp; omega) | (rw [List.length_map]; assumption) | assumption | rfl | (simp [*]; done) | (simp [*]; omega)))) fun a hA => ?_
           refine p0 hA 1 3 rfl (fun w => (q_move rfl)) fun a hA => ?_
           refine p0 hA 2 7 rfl (fun w => (q_move rfl)) fun a hA => ?_
           refine p0 hA 3 15 rfl (fun w => (q_idxk (i) Tryd.underlying79 ti90 rfl rfl (by first | omega | rfl) (Rd.shp hr.1) (by first | omega | (simp; done) | (simp; omega) | (rw [List.length_map]; assumption) | assumption | rfl | (simp [*]; done) | (simp [*]; omega)))) fun a hA => ?_
           refine r0 hA 4 31 rfl hS (fun w hH => (q_loadRs Tryd.underlying90 rfl ti90 rfl (hH.rd hr.1) (by omega) _ hE39)) fun a hA => ?_
           refine a1n hA 5 63 rfl (lo_call fn49 rfl (bytesOf_any (hg.mono0 hH) _ (by first | exact hkey | exact hnn | exact hDn | exact hn2 | (first | assumption | (rw [List.length_map]; assumption) | rfl | exact sha_length _ | (simp; done) | (simp [*]; done) | omega)) e (HdOk.mv hH he))) ?_
           rintro _ w ⟨v_t120, N_t120, l_t120, b_t120, rfl, hO_t120, hl_t120, hC⟩
           replace hH := HS.call0 hH hC
           clear hC
           obtain ⟨D0, hD0⟩ : ∃ D, D = decO key l_t120 := ⟨_, rfl⟩
           obtain ⟨R, hRR⟩ : ∃ R, R = hearD s n h x did l_t120 D0 := ⟨_, rfl⟩
           intro a hA
           refine p0 hA 6 127 rfl (fun w => (q_move rfl)) fun a hA => ?_
           refine p0 hA 7 255 rfl (fun w => (q_extract rfl rfl)) fun a hA => ?_
           refine p0 hA 8 511 rfl (fun w => (q_extract rfl rfl)) fun a hA => ?_
           refine hA.spl (fun hs122 hA => ?_) (fun hs122 hA => ?_)
           ·skip
            refine p0 hA 9 1023 rfl (fun w => (q_assign rfl)) fun a hA => ?_
            refine p0 hA 10 2047 rfl (fun w => (q_assign rfl)) fun a hA => ?_
            refine a_end (by kernel_rfl) ?_ _
            refine hK52 _ _ ?_
            clear hK52
            refine wp_seq_k fun K53 hK53 => ?_
            refine wp_seq_k fun K54 hK54 => ?_
            refine wp_region_lit ?_
            refine mv hA fun a hA => ?_
            refine sq hA (q_not rfl) rfl fun a hA => ?_
            refine wpList_nil ?_
            refine hK54 _ _ ?_
            clear hK54
            refine cond_f hA rfl ?_
            refine wp_skip ?_
            refine hK53 _ _ ?_
            clear hK53
            refine wp_seq_k fun K55 hK55 => ?_
            refine wp_region_lit ?_
            refine mv hA fun a hA => ?_
            refine sl hA (lo_bs (f := B8) (e := 5) ([]) hH rfl rfl (fun w => by kernel_rfl)) rfl ?_
            clear hH; rintro v_t127 w ⟨N_t127, hO_t127, hH⟩ a hA
            refine mv hA fun a hA => ?_
            refine sl hA (lo_appm hH Tryd.underlying22 Tryd.underlying22 (.inl rfl) ti5 rfl rfl rfl hO_t127 (Rd.src (Own.rd0 hO_t120 hH 1 rfl)) (one_B8 _) (by first | omega | (simp; done) | (simp; omega)) (by first | omega | (simp; done) | (simp; omega))) rfl ?_
            clear hH; rintro v_t129 w ⟨N_t129, hO_t129, hH⟩ a hA
            replace hH := hH.pick [6, 0, 1, 2, 3, 4, 5, 7, 8] (Hs' := [_, _, _, _, _, _, _, _, _]) rfl
            refine sl hA (lo_call fn48 rfl (hear_r (hg.mono0 hH) key hkey s hsd n h hR b_w x did N_w hW_w (hg.ng NG.nil hH) _ _ (Own.rdM hO_t129 (Ns1 := [_]) hH 0 rfl) (by first | omega | (simp; done) | (simp; omega)) D0 hD0 hRR (HS.handed (Ns1 := [_]) hH))) rfl ?_
            rintro _ w ⟨v_t130, N_t130, N_w, rfl, hO_t130, hl_t130, hW_w, hC⟩ a hA
            replace hH := HS.call (Ns1 := [_]) hH hC
            clear hC
            refine mv hA fun a hA => ?_
            refine sq hA (q_extract rfl rfl) rfl fun a hA => ?_
            refine sq hA (q_extract rfl rfl) rfl fun a hA => ?_
            refine asg hA fun a hA => ?_
            refine asg hA fun a hA => ?_
            refine wpList_nil ?_
            refine hK55 _ _ ?_
            clear hK55
            refine wp_seq_k fun K56 hK56 => ?_
            refine wp_region_lit ?_
            refine mv hA fun a hA => ?_
            refine sl hA (lo_bs (f := B8) (e := 5) ([]) hH rfl rfl (fun w => by kernel_rfl)) rfl ?_
            clear hH; rintro v_t135 w ⟨N_t135, hO_t135, hH⟩ a hA
            refine mv hA fun a hA => ?_
            refine sl hA (lo_appm hH Tryd.underlying22 Tryd.underlying22 (.inl rfl) ti5 rfl rfl rfl hO_t135 (Rd.src (Own.rd0 hO_t120 hH 4 rfl)) (one_B8 _) (by first | omega | (simp; done) | (simp; omega)) (by first | omega | (simp; done) | (simp; omega))) rfl ?_
            clear hH; rintro v_t137 w ⟨N_t137, hO_t137, hH⟩ a hA
            replace hH := hH.pick [9, 0, 1, 2, 3, 4, 5, 6, 7, 8, 10] (Hs' := [_, _, _, _, _, _, _, _, _, _, _]) rfl
            refine sl hA (lo_call fn48 rfl (hear_r (hg.mono0 hH) key hkey s hsd n h hR b_v x did N_v hW_v (hg.ng NG.nil hH) _ _ (Own.rdM hO_t137 (Ns1 := [_]) hH 0 rfl) (by first | omega | (simp; done) | (simp; omega)) D0 hD0 hRR (HS.handed (Ns1 := [_]) hH))) rfl ?_
            rintro _ w ⟨v_t138, N_t138, N_v, rfl, hO_t138, hl_t138, hW_v, hC⟩ a hA
            replace hH := HS.call (Ns1 := [_]) hH hC
            clear hC
            refine mv hA fun a hA => ?_
            refine sq hA (q_extract rfl rfl) rfl fun a hA => ?_
            refine sq hA (q_extract rfl rfl) rfl fun a hA => ?_
            refine asg hA fun a hA => ?_
            refine asg hA fun a hA => ?_
            refine wpList_nil ?_
            refine hK56 _ _ ?_
            clear hK56
            refine wp_seq_k fun K57 hK57 => ?_
            refine wp_region_lit ?_
            refine mv hA fun a hA => ?_
            refine mv hA fun a hA => ?_
            refine sq hA (q_neqI rfl rfl) rfl fun a hA => ?_
            replace hA := hA.decF (by exact fun h => h rfl)
            refine mv hA fun a hA => ?_
            refine gq hA rfl rfl (q_move rfl) rfl fun a hA => ?_
            refine gq hA rfl rfl (q_move rfl) rfl fun a hA => ?_
            refine gl hA rfl rfl (lo_call fn16 rfl (same_any _ _ _ _ (Own.rd0 hO_t130 hH 4 rfl) (Own.rd0 hO_t138 hH 1 rfl) (by first | omega | (simp; done) | (simp; omega)) (by first | omega | (simp; done) | (simp; omega)))) rfl ?_
            rintro _ w ⟨rfl, hC⟩ a hA
            replace hH := HS.call0 hH hC
            clear hC
            replace hA := hA.decT (by rfl)
            refine gq hA rfl rfl (q_not rfl) rfl fun a hA => ?_
            refine sq hA (q_pick_f rfl rfl) rfl fun a hA => ?_
            refine wpList_nil ?_
            refine hK57 _ _ ?_
            clear hK57
            refine cond_f hA rfl ?_
            refine wp_skip ?_
            refine block_normal ?_
            refine hK14 _ _ ?_
            clear hK14
            refine wp_region_lit ?_
            refine mv hA fun a hA => ?_
            refine sq hA (q_addI (n := 1) rfl rfl (by omega)) rfl fun a hA => ?_
            refine asg hA fun a hA => ?_
            refine wpList_nil ?_
            replace hH := hH.pick [10, 3, 0, 11, 1, 2, 4, 5, 6, 7, 8, 9] (Hs' := [_, _, _, _, _, _, _, _, _, _, _, _]) rfl
            replace hH := hH.pick [0, 1, 2, 3] (Hs' := [_, _, _, _]) rfl
            exact ⟨_, by omega, i + 1, R.2.1, R.2.2, N_w, N_v, hA.sub ⟨rfl, rfl, rfl, rfl, rfl, rfl, rfl, rfl, rfl, trivial⟩, hH, by omega, by exact hW_w, by exact hW_v, rfl⟩
           ·skip
            refine p0 hA 9 1023 rfl (fun w => (q_assign rfl)) fun a hA => ?_
            refine p0 hA 10 2047 rfl (fun w => (q_assign rfl)) fun a hA => ?_
            refine a_end (by kernel_rfl) ?_ _
            refine hK52 _ _ ?_
            clear hK52
            refine wp_seq_k fun K58 hK58 => ?_
            refine wp_seq_k fun K59 hK59 => ?_
            refine wp_region_lit ?_
            refine mv hA fun a hA => ?_
            refine sq hA (q_not rfl) rfl fun a hA => ?_
            refine wpList_nil ?_
            refine hK59 _ _ ?_
            clear hK59
            refine cond_t hA rfl ?_
            refine wp_exit ?_
            refine then_exit ?_
            refine exit_here ?_
            refine hK14 _ _ ?_
            clear hK14
            refine wp_region_lit ?_
            refine mv hA fun a hA => ?_
            refine sq hA (q_addI (n := 1) rfl rfl (by omega)) rfl fun a hA => ?_
            refine asg hA fun a hA => ?_
            refine wpList_nil ?_
            replace hH := hH.pick [4, 5, 6, 7, 0, 1, 2, 3] (Hs' := [_, _, _, _, _, _, _, _]) rfl
            replace hH := hH.pick [0, 1, 2, 3] (Hs' := [_, _, _, _]) rfl
            exact ⟨_, by omega, i + 1, x, did, N_w, N_v, hA.sub ⟨rfl, rfl, rfl, rfl, rfl, rfl, rfl, rfl, rfl, trivial⟩, hH, by omega, by exact hW_w, by exact hW_v, rfl⟩
          ·skip
           refine wpList_nil ?_
           refine hK51 _ _ ?_
           clear hK51
           refine cond_f hA rfl ?_
           refine wp_skip ?_
           refine block_normal ?_
           refine hK14 _ _ ?_
           clear hK14
           refine wp_region_lit ?_
           refine mv hA fun a hA => ?_
           refine sq hA (q_addI (n := 1) rfl rfl (by omega)) rfl fun a hA => ?_
           refine asg hA fun a hA => ?_
           refine wpList_nil ?_
           replace hH := hH.pick [3, 4, 5, 6, 0, 1, 2] (Hs' := [_, _, _, _, _, _, _]) rfl
           replace hH := hH.pick [0, 1, 2, 3] (Hs' := [_, _, _, _]) rfl
           exact ⟨_, by omega, i + 1, x, did, N_w, N_v, hA.sub ⟨rfl, rfl, rfl, rfl, rfl, rfl, rfl, rfl, rfl, trivial⟩, hH, by omega, by exact hW_w, by exact hW_v, rfl⟩
       ·skip
        refine sq hA (q_pick_t rfl rfl) rfl fun a hA => ?_
        refine wpList_nil ?_
        refine hK16 _ _ ?_
        clear hK16
        refine cond_f hA rfl ?_
        refine wp_skip ?_
        refine hK15 _ _ ?_
        clear hK15
        refine wp_seq_k fun K60 hK60 => ?_
        refine wp_region_lit ?_
        refine mv hA fun a hA => ?_
        refine mv hA fun a hA => ?_
        refine sq hA (q_len Tryd.underlying79 rfl (Rd.shp hr.1)) rfl fun a hA => ?_
        refine sq hA (q_lssI rfl rfl) rfl fun a hA => ?_
        refine hA.spl (fun hs113 hA => ?_) (fun hs113 hA => ?_)
        ·skip
         obtain ⟨e, hem, hE39, hE37, hu, hx, hn, hb⟩ := hr.get (i := i) (by omega)
         have he : HdOk [] w0 e := ⟨hu, hx, hn, hb⟩
         refine wpList_nil ?_
         refine hK60 _ _ ?_
         clear hK60
         refine cond_t hA rfl ?_
         refine wp_seq_k fun K61 hK61 => ?_
         refine any_go mixed (fun j => !(Nat.beq j 5)) hH ?_
         clear hH; intro w hH
         have hS := hH
         refine any_l 11 ?_
         refine r0 hA 0 1 rfl hS (fun w hH => (q_loadW hH 0 rfl Tryd.underlying24 rfl ti24 rfl (by first | omega | (simp; done) | (simp; omega) | (rw [List.length_map]; assumption) | assumption | rfl | (simp [*]; done) | (simp [*]; omega)))) fun a hA => ?_
         refine p0 hA 1 3 rfl (fun w => (q_move rfl)) fun a hA => ?_
         refine p0 hA 2 7 rfl (fun w => (q_move rfl)) fun a hA => ?_
         refine p0 hA 3 15 rfl (fun w => (q_idxk (i) Tryd.underlying79 ti90 rfl rfl (by first | omega | rfl) (Rd.shp hr.1) (by first | omega | (simp; done) | (simp; omega) | (rw [List.length_map]; assumption) | assumption | rfl | (simp [*]; done) | (simp [*]; omega)))) fun a hA => ?_
         refine r0 hA 4 31 rfl hS (fun w hH => (q_loadRs Tryd.underlying90 rfl ti90 rfl (hH.rd hr.1) (by omega) _ hE39)) fun a hA => ?_
         refine a1n hA 5 63 rfl (lo_call fn49 rfl (bytesOf_any (hg.mono0 hH) _ (by first | exact hkey | exact hnn | exact hDn | exact hn2 | (first | assumption | (rw [List.length_map]; assumption) | rfl | exact sha_length _ | (simp; done) | (simp [*]; done) | omega)) e (HdOk.mv hH he))) ?_
         rintro _ w ⟨v_t120, N_t120, l_t120, b_t120, rfl, hO_t120, hl_t120, hC⟩
         replace hH := HS.call0 hH hC
         clear hC
         obtain ⟨D0, hD0⟩ : ∃ D, D = decO key l_t120 := ⟨_, rfl⟩
         obtain ⟨R, hRR⟩ : ∃ R, R = hearD s n h x did l_t120 D0 := ⟨_, rfl⟩
         intro a hA
         refine p0 hA 6 127 rfl (fun w => (q_move rfl)) fun a hA => ?_
         refine p0 hA 7 255 rfl (fun w => (q_extract rfl rfl)) fun a hA => ?_
         refine p0 hA 8 511 rfl (fun w => (q_extract rfl rfl)) fun a hA => ?_
         refine hA.spl (fun hs122 hA => ?_) (fun hs122 hA => ?_)
         ·skip
          refine p0 hA 9 1023 rfl (fun w => (q_assign rfl)) fun a hA => ?_
          refine p0 hA 10 2047 rfl (fun w => (q_assign rfl)) fun a hA => ?_
          refine a_end (by kernel_rfl) ?_ _
          refine hK61 _ _ ?_
          clear hK61
          refine wp_seq_k fun K62 hK62 => ?_
          refine wp_seq_k fun K63 hK63 => ?_
          refine wp_region_lit ?_
          refine mv hA fun a hA => ?_
          refine sq hA (q_not rfl) rfl fun a hA => ?_
          refine wpList_nil ?_
          refine hK63 _ _ ?_
          clear hK63
          refine cond_f hA rfl ?_
          refine wp_skip ?_
          refine hK62 _ _ ?_
          clear hK62
          refine wp_seq_k fun K64 hK64 => ?_
          refine wp_region_lit ?_
          refine mv hA fun a hA => ?_
          refine sl hA (lo_bs (f := B8) (e := 5) ([]) hH rfl rfl (fun w => by kernel_rfl)) rfl ?_
          clear hH; rintro v_t127 w ⟨N_t127, hO_t127, hH⟩ a hA
          refine mv hA fun a hA => ?_
          refine sl hA (lo_appm hH Tryd.underlying22 Tryd.underlying22 (.inl rfl) ti5 rfl rfl rfl hO_t127 (Rd.src (Own.rd0 hO_t120 hH 1 rfl)) (one_B8 _) (by first | omega | (simp; done) | (simp; omega)) (by first | omega | (simp; done) | (simp; omega))) rfl ?_
          clear hH; rintro v_t129 w ⟨N_t129, hO_t129, hH⟩ a hA
          replace hH := hH.pick [3, 0, 1, 2, 4, 5] (Hs' := [_, _, _, _, _, _]) rfl
          refine sl hA (lo_call fn48 rfl (hear_r (hg.mono0 hH) key hkey s hsd n h hR b_w x did N_w hW_w (hg.ng NG.nil hH) _ _ (Own.rdM hO_t129 (Ns1 := [_]) hH 0 rfl) (by first | omega | (simp; done) | (simp; omega)) D0 hD0 hRR (HS.handed (Ns1 := [_]) hH))) rfl ?_
          rintro _ w ⟨v_t130, N_t130, N_w, rfl, hO_t130, hl_t130, hW_w, hC⟩ a hA
          replace hH := HS.call (Ns1 := [_]) hH hC
          clear hC
          refine mv hA fun a hA => ?_
          refine sq hA (q_extract rfl rfl) rfl fun a hA => ?_
          refine sq hA (q_extract rfl rfl) rfl fun a hA => ?_
          refine asg hA fun a hA => ?_
          refine asg hA fun a hA => ?_
          refine wpList_nil ?_
          refine hK64 _ _ ?_
          clear hK64
          refine wp_seq_k fun K65 hK65 => ?_
          refine wp_region_lit ?_
          refine mv hA fun a hA => ?_
          refine sl hA (lo_bs (f := B8) (e := 5) ([]) hH rfl rfl (fun w => by kernel_rfl)) rfl ?_
          clear hH; rintro v_t135 w ⟨N_t135, hO_t135, hH⟩ a hA
          refine mv hA fun a hA => ?_
          refine sl hA (lo_appm hH Tryd.underlying22 Tryd.underlying22 (.inl rfl) ti5 rfl rfl rfl hO_t135 (Rd.src (Own.rd0 hO_t120 hH 4 rfl)) (one_B8 _) (by first | omega | (simp; done) | (simp; omega)) (by first | omega | (simp; done) | (simp; omega))) rfl ?_
          clear hH; rintro v_t137 w ⟨N_t137, hO_t137, hH⟩ a hA
          replace hH := hH.pick [6, 0, 1, 2, 3, 4, 5, 7] (Hs' := [_, _, _, _, _, _, _, _]) rfl
          refine sl hA (lo_call fn48 rfl (hear_r (hg.mono0 hH) key hkey s hsd n h hR b_v x did N_v hW_v (hg.ng NG.nil hH) _ _ (Own.rdM hO_t137 (Ns1 := [_]) hH 0 rfl) (by first | omega | (simp; done) | (simp; omega)) D0 hD0 hRR (HS.handed (Ns1 := [_]) hH))) rfl ?_
          rintro _ w ⟨v_t138, N_t138, N_v, rfl, hO_t138, hl_t138, hW_v, hC⟩ a hA
          replace hH := HS.call (Ns1 := [_]) hH hC
          clear hC
          refine mv hA fun a hA => ?_
          refine sq hA (q_extract rfl rfl) rfl fun a hA => ?_
          refine sq hA (q_extract rfl rfl) rfl fun a hA => ?_
          refine asg hA fun a hA => ?_
          refine asg hA fun a hA => ?_
          refine wpList_nil ?_
          refine hK65 _ _ ?_
          clear hK65
          refine wp_seq_k fun K66 hK66 => ?_
          refine wp_region_lit ?_
          refine mv hA fun a hA => ?_
          refine mv hA fun a hA => ?_
          refine sq hA (q_neqI rfl rfl) rfl fun a hA => ?_
          replace hA := hA.decF (by exact fun h => h rfl)
          refine mv hA fun a hA => ?_
          refine gq hA rfl rfl (q_move rfl) rfl fun a hA => ?_
          refine gq hA rfl rfl (q_move rfl) rfl fun a hA => ?_
          refine gl hA rfl rfl (lo_call fn16 rfl (same_any _ _ _ _ (Own.rd0 hO_t130 hH 4 rfl) (Own.rd0 hO_t138 hH 1 rfl) (by first | omega | (simp; done) | (simp; omega)) (by first | omega | (simp; done) | (simp; omega)))) rfl ?_
          rintro _ w ⟨rfl, hC⟩ a hA
          replace hH := HS.call0 hH hC
          clear hC
          replace hA := hA.decT (by rfl)
          refine gq hA rfl rfl (q_not rfl) rfl fun a hA => ?_
          refine sq hA (q_pick_f rfl rfl) rfl fun a hA => ?_
          refine wpList_nil ?_
          refine hK66 _ _ ?_
          clear hK66
          refine cond_f hA rfl ?_
          refine wp_skip ?_
          refine block_normal ?_
          refine hK14 _ _ ?_
          clear hK14
          refine wp_region_lit ?_
          refine mv hA fun a hA => ?_
          refine sq hA (q_addI (n := 1) rfl rfl (by omega)) rfl fun a hA => ?_
          refine asg hA fun a hA => ?_
          refine wpList_nil ?_
          replace hH := hH.pick [7, 3, 0, 8, 1, 2, 4, 5, 6] (Hs' := [_, _, _, _, _, _, _, _, _]) rfl
          replace hH := hH.pick [0, 1, 2, 3] (Hs' := [_, _, _, _]) rfl
          exact ⟨_, by omega, i + 1, R.2.1, R.2.2, N_w, N_v, hA.sub ⟨rfl, rfl, rfl, rfl, rfl, rfl, rfl, rfl, rfl, trivial⟩, hH, by omega, by exact hW_w, by exact hW_v, rfl⟩
         ·skip
          refine p0 hA 9 1023 rfl (fun w => (q_assign rfl)) fun a hA => ?_
          refine p0 hA 10 2047 rfl (fun w => (q_assign rfl)) fun a hA => ?_
          refine a_end (by kernel_rfl) ?_ _
          refine hK61 _ _ ?_
          clear hK61
          refine wp_seq_k fun K67 hK67 => ?_
          refine wp_seq_k fun K68 hK68 => ?_
          refine wp_region_lit ?_
          refine mv hA fun a hA => ?_
          refine sq hA (q_not rfl) rfl fun a hA => ?_
          refine wpList_nil ?_
          refine hK68 _ _ ?_
          clear hK68
          refine cond_t hA rfl ?_
          refine wp_exit ?_
          refine then_exit ?_
          refine exit_here ?_
          refine hK14 _ _ ?_
          clear hK14
          refine wp_region_lit ?_
          refine mv hA fun a hA => ?_
          refine sq hA (q_addI (n := 1) rfl rfl (by omega)) rfl fun a hA => ?_
          refine asg hA fun a hA => ?_
          refine wpList_nil ?_
          replace hH := hH.pick [1, 2, 3, 4, 0] (Hs' := [_, _, _, _, _]) rfl
          replace hH := hH.pick [0, 1, 2, 3] (Hs' := [_, _, _, _]) rfl
          exact ⟨_, by omega, i + 1, x, did, N_w, N_v, hA.sub ⟨rfl, rfl, rfl, rfl, rfl, rfl, rfl, rfl, rfl, trivial⟩, hH, by omega, by exact hW_w, by exact hW_v, rfl⟩
        ·skip
         refine wpList_nil ?_
         refine hK60 _ _ ?_
         clear hK60
         refine cond_f hA rfl ?_
         refine wp_skip ?_
         refine block_normal ?_
         refine hK14 _ _ ?_
         clear hK14
         refine wp_region_lit ?_
         refine mv hA fun a hA => ?_
         refine sq hA (q_addI (n := 1) rfl rfl (by omega)) rfl fun a hA => ?_
         refine asg hA fun a hA => ?_
         refine wpList_nil ?_
         exact ⟨_, by omega, i + 1, x, did, N_w, N_v, hA.sub ⟨rfl, rfl, rfl, rfl, rfl, rfl, rfl, rfl, rfl, trivial⟩, hH, by omega, by exact hW_w, by exact hW_v, rfl⟩
      ·skip
       refine mv hA fun a hA => ?_
       refine gs hA rfl rfl rfl rfl fun a hA => ?_
       refine gs hA rfl rfl rfl rfl fun a hA => ?_
       refine gs hA rfl rfl rfl rfl fun a hA => ?_
       refine gs hA rfl rfl rfl rfl fun a hA => ?_
       refine gs hA rfl rfl rfl rfl fun a hA => ?_
       refine gs hA rfl rfl rfl rfl fun a hA => ?_
       refine sq hA (q_pick_f rfl rfl) rfl fun a hA => ?_
       refine wpList_nil ?_
       refine hK16 _ _ ?_
       clear hK16
       refine cond_f hA rfl ?_
       refine wp_skip ?_
       refine hK15 _ _ ?_
       clear hK15
       refine wp_seq_k fun K69 hK69 => ?_
       refine wp_region_lit ?_
       refine mv hA fun a hA => ?_
       refine mv hA fun a hA => ?_
       refine sq hA (q_len Tryd.underlying79 rfl (Rd.shp hr.1)) rfl fun a hA => ?_
       refine sq hA (q_lssI rfl rfl) rfl fun a hA => ?_
       refine hA.spl (fun hs113 hA => ?_) (fun hs113 hA => ?_)
       ·skip
        obtain ⟨e, hem, hE39, hE37, hu, hx, hn, hb⟩ := hr.get (i := i) (by omega)
        have he : HdOk [] w0 e := ⟨hu, hx, hn, hb⟩
        refine wpList_nil ?_
        refine hK69 _ _ ?_
        clear hK69
        refine cond_t hA rfl ?_
        refine wp_seq_k fun K70 hK70 => ?_
        refine any_go mixed (fun j => !(Nat.beq j 5)) hH ?_
        clear hH; intro w hH
        have hS := hH
        refine any_l 11 ?_
        refine r0 hA 0 1 rfl hS (fun w hH => (q_loadW hH 0 rfl Tryd.underlying24 rfl ti24 rfl (by first | omega | (simp; done) | (simp; omega) | (rw [List.length_map]; assumption) | assumption | rfl | (simp [*]; done) | (simp [*]; omega)))) fun a hA => ?_
        refine p0 hA 1 3 rfl (fun w => (q_move rfl)) fun a hA => ?_
        refine p0 hA 2 7 rfl (fun w => (q_move rfl)) fun a hA => ?_
        refine p0 hA 3 15 rfl (fun w => (q_idxk (i) Tryd.underlying79 ti90 rfl rfl (by first | omega | rfl) (Rd.shp hr.1) (by first | omega | (simp; done) | (simp; omega) | (rw [List.length_map]; assumption) | assumption | rfl | (simp [*]; done) | (simp [*]; omega)))) fun a hA => ?_
        refine r0 hA 4 31 rfl hS (fun w hH => (q_loadRs Tryd.underlying90 rfl ti90 rfl (hH.rd hr.1) (by omega) _ hE39)) fun a hA => ?_
        refine a1n hA 5 63 rfl (lo_call fn49 rfl (bytesOf_any (hg.mono0 hH) _ (by first | exact hkey | exact hnn | exact hDn | exact hn2 | (first | assumption | (rw [List.length_map]; assumption) | rfl | exact sha_length _ | (simp; done) | (simp [*]; done) | omega)) e (HdOk.mv hH he))) ?_
        rintro _ w ⟨v_t120, N_t120, l_t120, b_t120, rfl, hO_t120, hl_t120, hC⟩
        replace hH := HS.call0 hH hC
        clear hC
        obtain ⟨D0, hD0⟩ : ∃ D, D = decO key l_t120 := ⟨_, rfl⟩
        obtain ⟨R, hRR⟩ : ∃ R, R = hearD s n h x did l_t120 D0 := ⟨_, rfl⟩
        intro a hA
        refine p0 hA 6 127 rfl (fun w => (q_move rfl)) fun a hA => ?_
        refine p0 hA 7 255 rfl (fun w => (q_extract rfl rfl)) fun a hA => ?_
        refine p0 hA 8 511 rfl (fun w => (q_extract rfl rfl)) fun a hA => ?_
        refine hA.spl (fun hs122 hA => ?_) (fun hs122 hA => ?_)
        ·skip
         refine p0 hA 9 1023 rfl (fun w => (q_assign rfl)) fun a hA => ?_
         refine p0 hA 10 2047 rfl (fun w => (q_assign rfl)) fun a hA => ?_
         refine a_end (by kernel_rfl) ?_ _
         refine hK70 _ _ ?_
         clear hK70
         refine wp_seq_k fun K71 hK71 => ?_
         refine wp_seq_k fun K72 hK72 => ?_
         refine wp_region_lit ?_
         refine mv hA fun a hA => ?_
         refine sq hA (q_not rfl) rfl fun a hA => ?_
         refine wpList_nil ?_
         refine hK72 _ _ ?_
         clear hK72
         refine cond_f hA rfl ?_
         refine wp_skip ?_
         refine hK71 _ _ ?_
         clear hK71
         refine wp_seq_k fun K73 hK73 => ?_
         refine wp_region_lit ?_
         refine mv hA fun a hA => ?_
         refine sl hA (lo_bs (f := B8) (e := 5) ([]) hH rfl rfl (fun w => by kernel_rfl)) rfl ?_
         clear hH; rintro v_t127 w ⟨N_t127, hO_t127, hH⟩ a hA
         refine mv hA fun a hA => ?_
         refine sl hA (lo_appm hH Tryd.underlying22 Tryd.underlying22 (.inl rfl) ti5 rfl rfl rfl hO_t127 (Rd.src (Own.rd0 hO_t120 hH 1 rfl)) (one_B8 _) (by first | omega | (simp; done) | (simp; omega)) (by first | omega | (simp; done) | (simp; omega))) rfl ?_
         clear hH; rintro v_t129 w ⟨N_t129, hO_t129, hH⟩ a hA
         replace hH := hH.pick [3, 0, 1, 2, 4, 5] (Hs' := [_, _, _, _, _, _]) rfl
         refine sl hA (lo_call fn48 rfl (hear_r (hg.mono0 hH) key hkey s hsd n h hR b_w x did N_w hW_w (hg.ng NG.nil hH) _ _ (Own.rdM hO_t129 (Ns1 := [_]) hH 0 rfl) (by first | omega | (simp; done) | (simp; omega)) D0 hD0 hRR (HS.handed (Ns1 := [_]) hH))) rfl ?_
         rintro _ w ⟨v_t130, N_t130, N_w, rfl, hO_t130, hl_t130, hW_w, hC⟩ a hA
         replace hH := HS.call (Ns1 := [_]) hH hC
         clear hC
         refine mv hA fun a hA => ?_
         refine sq hA (q_extract rfl rfl) rfl fun a hA => ?_
         refine sq hA (q_extract rfl rfl) rfl fun a hA => ?_
         refine asg hA fun a hA => ?_
         refine asg hA fun a hA => ?_
         refine wpList_nil ?_
         refine hK73 _ _ ?_
         clear hK73
         refine wp_seq_k fun K74 hK74 => ?_
         refine wp_region_lit ?_
         refine mv hA fun a hA => ?_
         refine sl hA (lo_bs (f := B8) (e := 5) ([]) hH rfl rfl (fun w => by kernel_rfl)) rfl ?_
         clear hH; rintro v_t135 w ⟨N_t135, hO_t135, hH⟩ a hA
         refine mv hA fun a hA => ?_
         refine sl hA (lo_appm hH Tryd.underlying22 Tryd.underlying22 (.inl rfl) ti5 rfl rfl rfl hO_t135 (Rd.src (Own.rd0 hO_t120 hH 4 rfl)) (one_B8 _) (by first | omega | (simp; done) | (simp; omega)) (by first | omega | (simp; done) | (simp; omega))) rfl ?_
         clear hH; rintro v_t137 w ⟨N_t137, hO_t137, hH⟩ a hA
         replace hH := hH.pick [6, 0, 1, 2, 3, 4, 5, 7] (Hs' := [_, _, _, _, _, _, _, _]) rfl
         refine sl hA (lo_call fn48 rfl (hear_r (hg.mono0 hH) key hkey s hsd n h hR b_v x did N_v hW_v (hg.ng NG.nil hH) _ _ (Own.rdM hO_t137 (Ns1 := [_]) hH 0 rfl) (by first | omega | (simp; done) | (simp; omega)) D0 hD0 hRR (HS.handed (Ns1 := [_]) hH))) rfl ?_
         rintro _ w ⟨v_t138, N_t138, N_v, rfl, hO_t138, hl_t138, hW_v, hC⟩ a hA
         replace hH := HS.call (Ns1 := [_]) hH hC
         clear hC
         refine mv hA fun a hA => ?_
         refine sq hA (q_extract rfl rfl) rfl fun a hA => ?_
         refine sq hA (q_extract rfl rfl) rfl fun a hA => ?_
         refine asg hA fun a hA => ?_
         refine asg hA fun a hA => ?_
         refine wpList_nil ?_
         refine hK74 _ _ ?_
         clear hK74
         refine wp_seq_k fun K75 hK75 => ?_
         refine wp_region_lit ?_
         refine mv hA fun a hA => ?_
         refine mv hA fun a hA => ?_
         refine sq hA (q_neqI rfl rfl) rfl fun a hA => ?_
         replace hA := hA.decF (by exact fun h => h rfl)
         refine mv hA fun a hA => ?_
         refine gq hA rfl rfl (q_move rfl) rfl fun a hA => ?_
         refine gq hA rfl rfl (q_move rfl) rfl fun a hA => ?_
         refine gl hA rfl rfl (lo_call fn16 rfl (same_any _ _ _ _ (Own.rd0 hO_t130 hH 4 rfl) (Own.rd0 hO_t138 hH 1 rfl) (by first | omega | (simp; done) | (simp; omega)) (by first | omega | (simp; done) | (simp; omega)))) rfl ?_
         rintro _ w ⟨rfl, hC⟩ a hA
         replace hH := HS.call0 hH hC
         clear hC
         replace hA := hA.decT (by rfl)
         refine gq hA rfl rfl (q_not rfl) rfl fun a hA => ?_
         refine sq hA (q_pick_f rfl rfl) rfl fun a hA => ?_
         refine wpList_nil ?_
         refine hK75 _ _ ?_
         clear hK75
         refine cond_f hA rfl ?_
         refine wp_skip ?_
         refine block_normal ?_
         refine hK14 _ _ ?_
         clear hK14
         refine wp_region_lit ?_
         refine mv hA fun a hA => ?_
         refine sq hA (q_addI (n := 1) rfl rfl (by omega)) rfl fun a hA => ?_
         refine asg hA fun a hA => ?_
         refine wpList_nil ?_
         replace hH := hH.pick [7, 3, 0, 8, 1, 2, 4, 5, 6] (Hs' := [_, _, _, _, _, _, _, _, _]) rfl
         replace hH := hH.pick [0, 1, 2, 3] (Hs' := [_, _, _, _]) rfl
         exact ⟨_, by omega, i + 1, R.2.1, R.2.2, N_w, N_v, hA.sub ⟨rfl, rfl, rfl, rfl, rfl, rfl, rfl, rfl, rfl, trivial⟩, hH, by omega, by exact hW_w, by exact hW_v, rfl⟩
        ·skip
         refine p0 hA 9 1023 rfl (fun w => (q_assign rfl)) fun a hA => ?_
         refine p0 hA 10 2047 rfl (fun w => (q_assign rfl)) fun a hA => ?_
         refine a_end (by kernel_rfl) ?_ _
         refine hK70 _ _ ?_
         clear hK70
         refine wp_seq_k fun K76 hK76 => ?_
         refine wp_seq_k fun K77 hK77 => ?_
         refine wp_region_lit ?_
         refine mv hA fun a hA => ?_
         refine sq hA (q_not rfl) rfl fun a hA => ?_
         refine wpList_nil ?_
         refine hK77 _ _ ?_
         clear hK77
         refine cond_t hA rfl ?_
         refine wp_exit ?_
         refine then_exit ?_
         refine exit_here ?_
         refine hK14 _ _ ?_
         clear hK14
         refine wp_region_lit ?_
         refine mv hA fun a hA => ?_
         refine sq hA (q_addI (n := 1) rfl rfl (by omega)) rfl fun a hA => ?_
         refine asg hA fun a hA => ?_
         refine wpList_nil ?_
         replace hH := hH.pick [1, 2, 3, 4, 0] (Hs' := [_, _, _, _, _]) rfl
         replace hH := hH.pick [0, 1, 2, 3] (Hs' := [_, _, _, _]) rfl
         exact ⟨_, by omega, i + 1, x, did, N_w, N_v, hA.sub ⟨rfl, rfl, rfl, rfl, rfl, rfl, rfl, rfl, rfl, trivial⟩, hH, by omega, by exact hW_w, by exact hW_v, rfl⟩
       ·skip
        refine wpList_nil ?_
        refine hK69 _ _ ?_
        clear hK69
        refine cond_f hA rfl ?_
        refine wp_skip ?_
        refine block_normal ?_
        refine hK14 _ _ ?_
        clear hK14
        refine wp_region_lit ?_
        refine mv hA fun a hA => ?_
        refine sq hA (q_addI (n := 1) rfl rfl (by omega)) rfl fun a hA => ?_
        refine asg hA fun a hA => ?_
        refine wpList_nil ?_
        exact ⟨_, by omega, i + 1, x, did, N_w, N_v, hA.sub ⟨rfl, rfl, rfl, rfl, rfl, rfl, rfl, rfl, rfl, trivial⟩, hH, by omega, by exact hW_w, by exact hW_v, rfl⟩
     ·skip
      refine mv hA fun a hA => ?_
      refine gq hA rfl rfl (q_move rfl) rfl fun a hA => ?_
      refine gq hA rfl rfl (q_move rfl) rfl fun a hA => ?_
      refine gq hA rfl rfl (q_len Tryd.underlying80 rfl (RdR.shp hro)) rfl fun a hA => ?_
      refine gq hA rfl rfl (q_lssI rfl rfl) rfl fun a hA => ?_
      refine hA.spl (fun hs65 hA => ?_) (fun hs65 hA => ?_)
      ·skip
       refine sq hA (q_pick_f rfl rfl) rfl fun a hA => ?_
       refine wpList_nil ?_
       refine hK13 _ _ ?_
       clear hK13
       refine cond_t hA rfl ?_
       refine wp_skip ?_
       refine hK12 _ _ ?_
       clear hK12
       refine wp_seq_k fun K78 hK78 => ?_
       refine wp_block ?_
       refine wp_seq_k fun K79 hK79 => ?_
       refine wp_seq_k fun K80 hK80 => ?_
       refine wp_region_lit ?_
       refine mv hA fun a hA => ?_
       refine mv hA fun a hA => ?_
       refine sq hA (q_len Tryd.underlying80 rfl (RdR.shp hro)) rfl fun a hA => ?_
       refine sq hA (q_lssI rfl rfl) rfl fun a hA => ?_
       refine hA.spl (fun hs72 hA => ?_) (fun hs72 hA => ?_)
       ·skip
        refine mv hA fun a hA => ?_
        refine gq hA rfl rfl (q_move rfl) rfl fun a hA => ?_
        refine gq hA rfl rfl (q_move rfl) rfl fun a hA => ?_
        refine gq hA rfl rfl (q_idx1 (i) Tryd.underlying80 ti22 rfl rfl (by first | omega | rfl) (RdR.shp hro) (by first | omega | (simp; done) | (simp; omega) | (rw [List.length_map]; assumption) | assumption | rfl | (simp [*]; done) | (simp [*]; omega))) rfl fun a hA => ?_
        have hx_t77 := hro
        obtain ⟨vs_t77, hvl_t77, hvo_t77, hvr_t77⟩ := hx_t77
        refine gq hA rfl rfl (q_loadR Tryd.underlying22 rfl rfl (hH.rd hvo_t77) (by first | omega | (simp; done) | (simp; omega) | (rw [List.length_map]; assumption) | assumption | rfl | (simp [*]; done) | (simp [*]; omega)) (getD_some' vs_t77 nilV (by first | omega | (simp; done) | (simp; omega) | (rw [List.length_map]; assumption) | assumption | rfl | (simp [*]; done) | (simp [*]; omega)))) rfl fun a hA => ?_
        refine gq hA rfl rfl (q_len Tryd.underlying22 rfl (Rd.shp (hvr_t77 (i) (by first | omega | (simp; done) | (simp; omega) | (rw [List.length_map]; assumption) | assumption | rfl | (simp [*]; done) | (simp [*]; omega))))) rfl fun a hA => ?_
        refine gq hA rfl rfl (q_leqI (n := 500) rfl rfl) rfl fun a hA => ?_
        refine hA.spl (fun hs79 hA => ?_) (fun hs79 hA => ?_)
        ·skip
         obtain ⟨D, hD⟩ : ∃ D, D = decO key (ls.getD i []) := ⟨_, rfl⟩
         have hDn : D.1.2.2.2.2.2.length = 32 := by rw [hD]; exact decO_n key _
         have hlo2 := hs79
         simp at hlo2
         refine sq hA (q_pick_t rfl rfl) rfl fun a hA => ?_
         refine wpList_nil ?_
         refine hK80 _ _ ?_
         clear hK80
         refine cond_t hA rfl ?_
         refine wp_seq_k fun K81 hK81 => ?_
         refine any_go mixed (fun j => !(Nat.beq j 5 || Nat.beq j 10)) hH ?_
         clear hH; intro w hH
         have hS := hH
         refine any_l 12 ?_
         refine r0 hA 0 1 rfl hS (fun w hH => (q_loadW hH 0 rfl Tryd.underlying24 rfl ti24 rfl (by first | omega | (simp; done) | (simp; omega) | (rw [List.length_map]; assumption) | assumption | rfl | (simp [*]; done) | (simp [*]; omega)))) fun a hA => ?_
         refine p0 hA 1 3 rfl (fun w => (q_move rfl)) fun a hA => ?_
         refine p0 hA 2 7 rfl (fun w => (q_move rfl)) fun a hA => ?_
         refine p0 hA 3 15 rfl (fun w => (q_idx1 (i) Tryd.underlying80 ti22 rfl rfl (by first | omega | rfl) (RdR.shp hro) (by first | omega | (simp; done) | (simp; omega) | (rw [List.length_map]; assumption) | assumption | rfl | (simp [*]; done) | (simp [*]; omega)))) fun a hA => ?_
         have hx_t86 := hro
         obtain ⟨vs_t86, hvl_t86, hvo_t86, hvr_t86⟩ := hx_t86
         refine r0 hA 4 31 rfl hS (fun w hH => (q_loadR Tryd.underlying22 rfl rfl (hH.rd hvo_t86) (by first | omega | (simp; done) | (simp; omega) | (rw [List.length_map]; assumption) | assumption | rfl | (simp [*]; done) | (simp [*]; omega)) (getD_some' vs_t86 nilV (by first | omega | (simp; done) | (simp; omega) | (rw [List.length_map]; assumption) | assumption | rfl | (simp [*]; done) | (simp [*]; omega))))) fun a hA => ?_
         refine a_ch2 (i := 5) (j := 9) (by kernel_rfl) ?_ ?_
         ·skip
          refine o1n hA 5 63 rfl (lo_call fn40 rfl (refdecw_g (hg.mono0 hH) _ (by first | exact hkey | exact hnn | exact hDn | exact hn2 | (first | assumption | (rw [List.length_map]; assumption) | rfl | exact sha_length _ | (simp; done) | (simp [*]; done) | omega)) _ _ (hH.rd (hvr_t86 (i) (by first | omega | (simp; done) | (simp; omega) | (rw [List.length_map]; assumption) | assumption | rfl | (simp [*]; done) | (simp [*]; omega)))) (by first | omega | (simp; done) | (simp; omega)) hD)) ?_
          rintro _ w ⟨v_at87, v_bt87, N_at87, N_bt87, rfl, hO_at87, hO_bt87, hC⟩
          replace hH := HS.call0 hH hC
          clear hC
          intro a hA
          refine p0 hA 6 127 rfl (fun w => (q_move rfl)) fun a hA => ?_
          refine p0 hA 7 255 rfl (fun w => (q_extract rfl rfl)) fun a hA => ?_
          refine p0 hA 8 511 rfl (fun w => (q_extract rfl rfl)) fun a hA => ?_
          refine a1 hA 9 1023 rfl (lo_allocA hH ti64) ?_
          clear hH; rintro _ w ⟨b_t16, rfl, hH⟩
          replace hS := hH.pick [3, 4, 5, 6] (Hs' := [_, _, _, _]) rfl
          refine ⟨fun _ _ => hS, ?_⟩
          intro a hA
          refine a0n hA 10 2047 rfl (lo_storeAm hH ti64 rfl rfl (by first | rfl | exact ordC_length hDn) (by first | rfl | exact ordC_length hDn) (ordC_one (Own.one hO_at87) (Own.one hO_bt87))) ?_
          clear hH; rintro _ w hH
          refine p0 hA 11 4095 rfl (fun w => (q_assign rfl)) fun a hA => ?_
          refine a_end (by kernel_rfl) ?_ _
          refine hK81 _ _ ?_
          clear hK81
          refine wp_seq_k fun K82 hK82 => ?_
          refine wp_region_lit ?_
          refine mv hA fun a hA => ?_
          refine sq hA (q_neqI (n := 0) rfl rfl) rfl fun a hA => ?_
          refine hA.spl (fun hs91 hA => ?_) (fun hs91 hA => ?_)
          ·skip
           refine wpList_nil ?_
           refine hK82 _ _ ?_
           clear hK82
           refine cond_t hA rfl ?_
           refine wp_seq_k fun K83 hK83 => ?_
           refine wp_region_lit ?_
           refine mv hA fun a hA => ?_
           refine sl hA (lo_bs (f := B8) (e := 5) ([]) hH rfl rfl (fun w => by kernel_rfl)) rfl ?_
           clear hH; rintro v_t94 w ⟨N_t94, hO_t94, hH⟩ a hA
           refine mv hA fun a hA => ?_
           refine mv hA fun a hA => ?_
           refine sq hA (q_idx1 (i) Tryd.underlying80 ti22 rfl rfl (by first | omega | rfl) (RdR.shp hro) (by first | omega | (simp; done) | (simp; omega) | (rw [List.length_map]; assumption) | assumption | rfl | (simp [*]; done) | (simp [*]; omega))) rfl fun a hA => ?_
           have hx_t98 := hro
           obtain ⟨vs_t98, hvl_t98, hvo_t98, hvr_t98⟩ := hx_t98
           refine sq hA (q_loadR Tryd.underlying22 rfl rfl (hH.rd hvo_t98) (by first | omega | (simp; done) | (simp; omega) | (rw [List.length_map]; assumption) | assumption | rfl | (simp [*]; done) | (simp [*]; omega)) (getD_some' vs_t98 nilV (by first | omega | (simp; done) | (simp; omega) | (rw [List.length_map]; assumption) | assumption | rfl | (simp [*]; done) | (simp [*]; omega)))) rfl fun a hA => ?_
           refine sl hA (lo_appm hH Tryd.underlying22 Tryd.underlying22 (.inl rfl) ti5 rfl rfl rfl hO_t94 (Rd.src (hH.rd (hvr_t98 (i) (by first | omega | (simp; done) | (simp; omega) | (rw [List.length_map]; assumption) | assumption | rfl | (simp [*]; done) | (simp [*]; omega))))) (one_B8 _) (by first | omega | (simp; done) | (simp; omega)) (by first | omega | (simp; done) | (simp; omega))) rfl ?_
           clear hH; rintro v_t99 w ⟨N_t99, hO_t99, hH⟩ a hA
           replace hH := hH.pick [5, 0, 1, 2, 3, 4, 6, 7] (Hs' := [_, _, _, _, _, _, _, _]) rfl
           refine sl hA (lo_call fn48 rfl (hear_b (hg.mono0 hH) key hkey s hsd n h hR b_w x did N_w hW_w (hg.ng NG.nil hH) _ _ (Own.rdM hO_t99 (Ns1 := [_]) hH 0 rfl) (by first | omega | (simp; done) | (simp; omega)) D hD (by omega) (HS.handed (Ns1 := [_]) hH))) rfl ?_
           rintro _ w ⟨v_t100, N_t100, N_w, rfl, hO_t100, hW_w, hC⟩ a hA
           replace hH := HS.call (Ns1 := [_]) hH hC
           clear hC
           refine mv hA fun a hA => ?_
           refine sq hA (q_extract rfl rfl) rfl fun a hA => ?_
           refine sq hA (q_extract rfl rfl) rfl fun a hA => ?_
           refine asg hA fun a hA => ?_
           refine asg hA fun a hA => ?_
           refine wpList_nil ?_
           refine hK83 _ _ ?_
           clear hK83
           refine wp_seq_k fun K84 hK84 => ?_
           refine wp_region_lit ?_
           refine mv hA fun a hA => ?_
           refine sq hA (q_eqlI (n := 0) rfl rfl) rfl fun a hA => ?_
           replace hA := hA.decF (by omega)
           refine mv hA fun a hA => ?_
           refine gq hA rfl rfl (q_move rfl) rfl fun a hA => ?_
           refine gq hA rfl rfl (q_len Tryd.underlying22 rfl (Own.shp hO_t100)) rfl fun a hA => ?_
           refine gq hA rfl rfl (q_neqI (n := 0) rfl rfl) rfl fun a hA => ?_
           replace hA := hA.decF (by exact fun h => h rfl)
           refine sq hA (q_pick_f rfl rfl) rfl fun a hA => ?_
           refine wpList_nil ?_
           refine hK84 _ _ ?_
           clear hK84
           refine cond_f hA rfl ?_
           refine wp_skip ?_
           refine hK79 _ _ ?_
           clear hK79
           refine wp_seq_k fun K85 hK85 => ?_
           refine wp_region_lit ?_
           refine mv hA fun a hA => ?_
           refine mv hA fun a hA => ?_
           refine sq hA (q_len Tryd.underlying79 rfl (Rd.shp hr.1)) rfl fun a hA => ?_
           refine sq hA (q_lssI rfl rfl) rfl fun a hA => ?_
           refine hA.spl (fun hs113 hA => ?_) (fun hs113 hA => ?_)
           ·skip
            obtain ⟨e, hem, hE39, hE37, hu, hx, hn, hb⟩ := hr.get (i := i) (by omega)
            have he : HdOk [] w0 e := ⟨hu, hx, hn, hb⟩
            refine wpList_nil ?_
            refine hK85 _ _ ?_
            clear hK85
            refine cond_t hA rfl ?_
            refine wp_seq_k fun K86 hK86 => ?_
            refine any_go mixed (fun j => !(Nat.beq j 5)) hH ?_
            clear hH; intro w hH
            have hS := hH
            refine any_l 11 ?_
            refine r0 hA 0 1 rfl hS (fun w hH => (q_loadW hH 6 rfl Tryd.underlying24 rfl ti24 rfl (by first | omega | (simp; done) | (simp; omega) | (rw [List.length_map]; assumption) | assumption | rfl | (simp [*]; done) | (simp [*]; omega)))) fun a hA => ?_
            refine p0 hA 1 3 rfl (fun w => (q_move rfl)) fun a hA => ?_
            refine p0 hA 2 7 rfl (fun w => (q_move rfl)) fun a hA => ?_
            refine p0 hA 3 15 rfl (fun w => (q_idxk (i) Tryd.underlying79 ti90 rfl rfl (by first | omega | rfl) (Rd.shp hr.1) (by first | omega | (simp; done) | (simp; omega) | (rw [List.length_map]; assumption) | assumption | rfl | (simp [*]; done) | (simp [*]; omega)))) fun a hA => ?_
            refine r0 hA 4 31 rfl hS (fun w hH => (q_loadRs Tryd.underlying90 rfl ti90 rfl (hH.rd hr.1) (by omega) _ hE39)) fun a hA => ?_
            refine a1n hA 5 63 rfl (lo_call fn49 rfl (bytesOf_any (hg.mono0 hH) _ (by first | exact hkey | exact hnn | exact hDn | exact hn2 | (first | assumption | (rw [List.length_map]; assumption) | rfl | exact sha_length _ | (simp; done) | (simp [*]; done) | omega)) e (HdOk.mv hH he))) ?_
            rintro _ w ⟨v_t120, N_t120, l_t120, b_t120, rfl, hO_t120, hl_t120, hC⟩
            replace hH := HS.call0 hH hC
            clear hC
            obtain ⟨D0, hD0⟩ : ∃ D, D = decO key l_t120 := ⟨_, rfl⟩
            obtain ⟨R, hRR⟩ : ∃ R, R = hearD s n h x did l_t120 D0 := ⟨_, rfl⟩
            intro a hA
            refine p0 hA 6 127 rfl (fun w => (q_move rfl)) fun a hA => ?_
            refine p0 hA 7 255 rfl (fun w => (q_extract rfl rfl)) fun a hA => ?_
            refine p0 hA 8 511 rfl (fun w => (q_extract rfl rfl)) fun a hA => ?_
            refine hA.spl (fun hs122 hA => ?_) (fun hs122 hA => ?_)
            ·skip
             refine p0 hA 9 1023 rfl (fun w => (q_assign rfl)) fun a hA => ?_
             refine p0 hA 10 2047 rfl (fun w => (q_assign rfl)) fun a hA => ?_
             refine a_end (by kernel_rfl) ?_ _
             refine hK86 _ _ ?_
             clear hK86
             refine wp_seq_k fun K87 hK87 => ?_
             refine wp_seq_k fun K88 hK88 => ?_
             refine wp_region_lit ?_
             refine mv hA fun a hA => ?_
             refine sq hA (q_not rfl) rfl fun a hA => ?_
             refine wpList_nil ?_
             refine hK88 _ _ ?_
             clear hK88
             refine cond_f hA rfl ?_
             refine wp_skip ?_
             refine hK87 _ _ ?_
             clear hK87
             refine wp_seq_k fun K89 hK89 => ?_
             refine wp_region_lit ?_
             refine mv hA fun a hA => ?_
             refine sl hA (lo_bs (f := B8) (e := 5) ([]) hH rfl rfl (fun w => by kernel_rfl)) rfl ?_
             clear hH; rintro v_t127 w ⟨N_t127, hO_t127, hH⟩ a hA
             refine mv hA fun a hA => ?_
             refine sl hA (lo_appm hH Tryd.underlying22 Tryd.underlying22 (.inl rfl) ti5 rfl rfl rfl hO_t127 (Rd.src (Own.rd0 hO_t120 hH 1 rfl)) (one_B8 _) (by first | omega | (simp; done) | (simp; omega)) (by first | omega | (simp; done) | (simp; omega))) rfl ?_
             clear hH; rintro v_t129 w ⟨N_t129, hO_t129, hH⟩ a hA
             replace hH := hH.pick [2, 0, 1, 3, 4, 5, 6, 7, 8, 9, 10] (Hs' := [_, _, _, _, _, _, _, _, _, _, _]) rfl
             refine sl hA (lo_call fn48 rfl (hear_r (hg.mono0 hH) key hkey s hsd n h hR b_w x did N_w hW_w (hg.ng NG.nil hH) _ _ (Own.rdM hO_t129 (Ns1 := [_]) hH 0 rfl) (by first | omega | (simp; done) | (simp; omega)) D0 hD0 hRR (HS.handed (Ns1 := [_]) hH))) rfl ?_
             rintro _ w ⟨v_t130, N_t130, N_w, rfl, hO_t130, hl_t130, hW_w, hC⟩ a hA
             replace hH := HS.call (Ns1 := [_]) hH hC
             clear hC
             refine mv hA fun a hA => ?_
             refine sq hA (q_extract rfl rfl) rfl fun a hA => ?_
             refine sq hA (q_extract rfl rfl) rfl fun a hA => ?_
             refine asg hA fun a hA => ?_
             refine asg hA fun a hA => ?_
             refine wpList_nil ?_
             refine hK89 _ _ ?_
             clear hK89
             refine wp_seq_k fun K90 hK90 => ?_
             refine wp_region_lit ?_
             refine mv hA fun a hA => ?_
             refine sl hA (lo_bs (f := B8) (e := 5) ([]) hH rfl rfl (fun w => by kernel_rfl)) rfl ?_
             clear hH; rintro v_t135 w ⟨N_t135, hO_t135, hH⟩ a hA
             refine mv hA fun a hA => ?_
             refine sl hA (lo_appm hH Tryd.underlying22 Tryd.underlying22 (.inl rfl) ti5 rfl rfl rfl hO_t135 (Rd.src (Own.rd0 hO_t120 hH 4 rfl)) (one_B8 _) (by first | omega | (simp; done) | (simp; omega)) (by first | omega | (simp; done) | (simp; omega))) rfl ?_
             clear hH; rintro v_t137 w ⟨N_t137, hO_t137, hH⟩ a hA
             replace hH := hH.pick [11, 0, 1, 2, 3, 4, 5, 6, 7, 8, 9, 10, 12] (Hs' := [_, _, _, _, _, _, _, _, _, _, _, _, _]) rfl
             refine sl hA (lo_call fn48 rfl (hear_r (hg.mono0 hH) key hkey s hsd n h hR b_v x did N_v hW_v (hg.ng NG.nil hH) _ _ (Own.rdM hO_t137 (Ns1 := [_]) hH 0 rfl) (by first | omega | (simp; done) | (simp; omega)) D0 hD0 hRR (HS.handed (Ns1 := [_]) hH))) rfl ?_
             rintro _ w ⟨v_t138, N_t138, N_v, rfl, hO_t138, hl_t138, hW_v, hC⟩ a hA
             replace hH := HS.call (Ns1 := [_]) hH hC
             clear hC
             refine mv hA fun a hA => ?_
             refine sq hA (q_extract rfl rfl) rfl fun a hA => ?_
             refine sq hA (q_extract rfl rfl) rfl fun a hA => ?_
             refine asg hA fun a hA => ?_
             refine asg hA fun a hA => ?_
             refine wpList_nil ?_
             refine hK90 _ _ ?_
             clear hK90
             refine wp_seq_k fun K91 hK91 => ?_
             refine wp_region_lit ?_
             refine mv hA fun a hA => ?_
             refine mv hA fun a hA => ?_
             refine sq hA (q_neqI rfl rfl) rfl fun a hA => ?_
             replace hA := hA.decF (by exact fun h => h rfl)
             refine mv hA fun a hA => ?_
             refine gq hA rfl rfl (q_move rfl) rfl fun a hA => ?_
             refine gq hA rfl rfl (q_move rfl) rfl fun a hA => ?_
             refine gl hA rfl rfl (lo_call fn16 rfl (same_any _ _ _ _ (Own.rd0 hO_t130 hH 4 rfl) (Own.rd0 hO_t138 hH 1 rfl) (by first | omega | (simp; done) | (simp; omega)) (by first | omega | (simp; done) | (simp; omega)))) rfl ?_
             rintro _ w ⟨rfl, hC⟩ a hA
             replace hH := HS.call0 hH hC
             clear hC
             replace hA := hA.decT (by rfl)
             refine gq hA rfl rfl (q_not rfl) rfl fun a hA => ?_
             refine sq hA (q_pick_f rfl rfl) rfl fun a hA => ?_
             refine wpList_nil ?_
             refine hK91 _ _ ?_
             clear hK91
             refine cond_f hA rfl ?_
             refine wp_skip ?_
             refine block_normal ?_
             refine hK78 _ _ ?_
             clear hK78
             refine wp_region_lit ?_
             refine mv hA fun a hA => ?_
             refine sq hA (q_addI (n := 1) rfl rfl (by omega)) rfl fun a hA => ?_
             refine asg hA fun a hA => ?_
             refine wpList_nil ?_
             replace hH := hH.pick [12, 3, 0, 13, 1, 2, 4, 5, 6, 7, 8, 9, 10, 11] (Hs' := [_, _, _, _, _, _, _, _, _, _, _, _, _, _]) rfl
             replace hH := hH.pick [0, 1, 2, 3] (Hs' := [_, _, _, _]) rfl
             exact ⟨_, by omega, i + 1, R.2.1, R.2.2, N_w, N_v, hA.sub ⟨rfl, rfl, rfl, rfl, rfl, rfl, rfl, rfl, rfl, trivial⟩, hH, by omega, by exact hW_w, by exact hW_v, rfl⟩
            ·skip
             refine p0 hA 9 1023 rfl (fun w => (q_assign rfl)) fun a hA => ?_
             refine p0 hA 10 2047 rfl (fun w => (q_assign rfl)) fun a hA => ?_
             refine a_end (by kernel_rfl) ?_ _
             refine hK86 _ _ ?_
             clear hK86
             refine wp_seq_k fun K92 hK92 => ?_
             refine wp_seq_k fun K93 hK93 => ?_
             refine wp_region_lit ?_
             refine mv hA fun a hA => ?_
             refine sq hA (q_not rfl) rfl fun a hA => ?_
             refine wpList_nil ?_
             refine hK93 _ _ ?_
             clear hK93
             refine cond_t hA rfl ?_
             refine wp_exit ?_
             refine then_exit ?_
             refine exit_here ?_
             refine hK78 _ _ ?_
             clear hK78
             refine wp_region_lit ?_
             refine mv hA fun a hA => ?_
             refine sq hA (q_addI (n := 1) rfl rfl (by omega)) rfl fun a hA => ?_
             refine asg hA fun a hA => ?_
             refine wpList_nil ?_
             replace hH := hH.pick [7, 1, 8, 9, 0, 2, 3, 4, 5, 6] (Hs' := [_, _, _, _, _, _, _, _, _, _]) rfl
             replace hH := hH.pick [0, 1, 2, 3] (Hs' := [_, _, _, _]) rfl
             exact ⟨_, by omega, i + 1, x, did, N_w, N_v, hA.sub ⟨rfl, rfl, rfl, rfl, rfl, rfl, rfl, rfl, rfl, trivial⟩, hH, by omega, by exact hW_w, by exact hW_v, rfl⟩
           ·skip
            refine wpList_nil ?_
            refine hK85 _ _ ?_
            clear hK85
            refine cond_f hA rfl ?_
            refine wp_skip ?_
            refine block_normal ?_
            refine hK78 _ _ ?_
            clear hK78
            refine wp_region_lit ?_
            refine mv hA fun a hA => ?_
            refine sq hA (q_addI (n := 1) rfl rfl (by omega)) rfl fun a hA => ?_
            refine asg hA fun a hA => ?_
            refine wpList_nil ?_
            replace hH := hH.pick [6, 0, 7, 8, 1, 2, 3, 4, 5] (Hs' := [_, _, _, _, _, _, _, _, _]) rfl
            replace hH := hH.pick [0, 1, 2, 3] (Hs' := [_, _, _, _]) rfl
            exact ⟨_, by omega, i + 1, x, did, N_w, N_v, hA.sub ⟨rfl, rfl, rfl, rfl, rfl, rfl, rfl, rfl, rfl, trivial⟩, hH, by omega, by exact hW_w, by exact hW_v, rfl⟩
          ·skip
           refine wpList_nil ?_
           refine hK82 _ _ ?_
           clear hK82
           refine cond_f hA rfl ?_
           refine wp_skip ?_
           refine hK79 _ _ ?_
           clear hK79
           refine wp_seq_k fun K94 hK94 => ?_
           refine wp_region_lit ?_
           refine mv hA fun a hA => ?_
           refine mv hA fun a hA => ?_
           refine sq hA (q_len Tryd.underlying79 rfl (Rd.shp hr.1)) rfl fun a hA => ?_
           refine sq hA (q_lssI rfl rfl) rfl fun a hA => ?_
           refine hA.spl (fun hs113 hA => ?_) (fun hs113 hA => ?_)
           ·skip
            obtain ⟨e, hem, hE39, hE37, hu, hx, hn, hb⟩ := hr.get (i := i) (by omega)
            have he : HdOk [] w0 e := ⟨hu, hx, hn, hb⟩
            refine wpList_nil ?_
            refine hK94 _ _ ?_
            clear hK94
            refine cond_t hA rfl ?_
            refine wp_seq_k fun K95 hK95 => ?_
            refine any_go mixed (fun j => !(Nat.beq j 5)) hH ?_
            clear hH; intro w hH
            have hS := hH
            refine any_l 11 ?_
            refine r0 hA 0 1 rfl hS (fun w hH => (q_loadW hH 3 rfl Tryd.underlying24 rfl ti24 rfl (by first | omega | (simp; done) | (simp; omega) | (rw [List.length_map]; assumption) | assumption | rfl | (simp [*]; done) | (simp [*]; omega)))) fun a hA => ?_
            refine p0 hA 1 3 rfl (fun w => (q_move rfl)) fun a hA => ?_
            refine p0 hA 2 7 rfl (fun w => (q_move rfl)) fun a hA => ?_
            refine p0 hA 3 15 rfl (fun w => (q_idxk (i) Tryd.underlying79 ti90 rfl rfl (by first | omega | rfl) (Rd.shp hr.1) (by first | omega | (simp; done) | (simp; omega) | (rw [List.length_map]; assumption) | assumption | rfl | (simp [*]; done) | (simp [*]; omega)))) fun a hA => ?_
            refine r0 hA 4 31 rfl hS (fun w hH => (q_loadRs Tryd.underlying90 rfl ti90 rfl (hH.rd hr.1) (by omega) _ hE39)) fun a hA => ?_
            refine a1n hA 5 63 rfl (lo_call fn49 rfl (bytesOf_any (hg.mono0 hH) _ (by first | exact hkey | exact hnn | exact hDn | exact hn2 | (first | assumption | (rw [List.length_map]; assumption) | rfl | exact sha_length _ | (simp; done) | (simp [*]; done) | omega)) e (HdOk.mv hH he))) ?_
            rintro _ w ⟨v_t120, N_t120, l_t120, b_t120, rfl, hO_t120, hl_t120, hC⟩
            replace hH := HS.call0 hH hC
            clear hC
            obtain ⟨D0, hD0⟩ : ∃ D, D = decO key l_t120 := ⟨_, rfl⟩
            obtain ⟨R, hRR⟩ : ∃ R, R = hearD s n h x did l_t120 D0 := ⟨_, rfl⟩
            intro a hA
            refine p0 hA 6 127 rfl (fun w => (q_move rfl)) fun a hA => ?_
            refine p0 hA 7 255 rfl (fun w => (q_extract rfl rfl)) fun a hA => ?_
            refine p0 hA 8 511 rfl (fun w => (q_extract rfl rfl)) fun a hA => ?_
            refine hA.spl (fun hs122 hA => ?_) (fun hs122 hA => ?_)
            ·skip
             refine p0 hA 9 1023 rfl (fun w => (q_assign rfl)) fun a hA => ?_
             refine p0 hA 10 2047 rfl (fun w => (q_assign rfl)) fun a hA => ?_
             refine a_end (by kernel_rfl) ?_ _
             refine hK95 _ _ ?_
             clear hK95
             refine wp_seq_k fun K96 hK96 => ?_
             refine wp_seq_k fun K97 hK97 => ?_
             refine wp_region_lit ?_
             refine mv hA fun a hA => ?_
             refine sq hA (q_not rfl) rfl fun a hA => ?_
             refine wpList_nil ?_
             refine hK97 _ _ ?_
             clear hK97
             refine cond_f hA rfl ?_
             refine wp_skip ?_
             refine hK96 _ _ ?_
             clear hK96
             refine wp_seq_k fun K98 hK98 => ?_
             refine wp_region_lit ?_
             refine mv hA fun a hA => ?_
             refine sl hA (lo_bs (f := B8) (e := 5) ([]) hH rfl rfl (fun w => by kernel_rfl)) rfl ?_
             clear hH; rintro v_t127 w ⟨N_t127, hO_t127, hH⟩ a hA
             refine mv hA fun a hA => ?_
             refine sl hA (lo_appm hH Tryd.underlying22 Tryd.underlying22 (.inl rfl) ti5 rfl rfl rfl hO_t127 (Rd.src (Own.rd0 hO_t120 hH 1 rfl)) (one_B8 _) (by first | omega | (simp; done) | (simp; omega)) (by first | omega | (simp; done) | (simp; omega))) rfl ?_
             clear hH; rintro v_t129 w ⟨N_t129, hO_t129, hH⟩ a hA
             replace hH := hH.pick [6, 0, 1, 2, 3, 4, 5, 7, 8] (Hs' := [_, _, _, _, _, _, _, _, _]) rfl
             refine sl hA (lo_call fn48 rfl (hear_r (hg.mono0 hH) key hkey s hsd n h hR b_w x did N_w hW_w (hg.ng NG.nil hH) _ _ (Own.rdM hO_t129 (Ns1 := [_]) hH 0 rfl) (by first | omega | (simp; done) | (simp; omega)) D0 hD0 hRR (HS.handed (Ns1 := [_]) hH))) rfl ?_
             rintro _ w ⟨v_t130, N_t130, N_w, rfl, hO_t130, hl_t130, hW_w, hC⟩ a hA
             replace hH := HS.call (Ns1 := [_]) hH hC
             clear hC
             refine mv hA fun a hA => ?_
             refine sq hA (q_extract rfl rfl) rfl fun a hA => ?_
             refine sq hA (q_extract rfl rfl) rfl fun a hA => ?_
             refine asg hA fun a hA => ?_
             refine asg hA fun a hA => ?_
             refine wpList_nil ?_
             refine hK98 _ _ ?_
             clear hK98
             refine wp_seq_k fun K99 hK99 => ?_
             refine wp_region_lit ?_
             refine mv hA fun a hA => ?_
             refine sl hA (lo_bs (f := B8) (e := 5) ([]) hH rfl rfl (fun w => by kernel_rfl)) rfl ?_
             clear hH; rintro v_t135 w ⟨N_t135, hO_t135, hH⟩ a hA
             refine mv hA fun a hA => ?_
             refine sl hA (lo_appm hH Tryd.underlying22 Tryd.underlying22 (.inl rfl) ti5 rfl rfl rfl hO_t135 (Rd.src (Own.rd0 hO_t120 hH 4 rfl)) (one_B8 _) (by first | omega | (simp; done) | (simp; omega)) (by first | omega | (simp; done) | (simp; omega))) rfl ?_
             clear hH; rintro v_t137 w ⟨N_t137, hO_t137, hH⟩ a hA
             replace hH := hH.pick [9, 0, 1, 2, 3, 4, 5, 6, 7, 8, 10] (Hs' := [_, _, _, _, _, _, _, _, _, _, _]) rfl
             refine sl hA (lo_call fn48 rfl (hear_r (hg.mono0 hH) key hkey s hsd n h hR b_v x did N_v hW_v (hg.ng NG.nil hH) _ _ (Own.rdM hO_t137 (Ns1 := [_]) hH 0 rfl) (by first | omega | (simp; done) | (simp; omega)) D0 hD0 hRR (HS.handed (Ns1 := [_]) hH))) rfl ?_
             rintro _ w ⟨v_t138, N_t138, N_v, rfl, hO_t138, hl_t138, hW_v, hC⟩ a hA
             replace hH := HS.call (Ns1 := [_]) hH hC
             clear hC
             refine mv hA fun a hA => ?_
             refine sq hA (q_extract rfl rfl) rfl fun a hA => ?_
             refine sq hA (q_extract rfl rfl) rfl fun a hA => ?_
             refine asg hA fun a hA => ?_
             refine asg hA fun a hA => ?_
             refine wpList_nil ?_
             refine hK99 _ _ ?_
             clear hK99
             refine wp_seq_k fun K100 hK100 => ?_
             refine wp_region_lit ?_
             refine mv hA fun a hA => ?_
             refine mv hA fun a hA => ?_
             refine sq hA (q_neqI rfl rfl) rfl fun a hA => ?_
             replace hA := hA.decF (by exact fun h => h rfl)
             refine mv hA fun a hA => ?_
             refine gq hA rfl rfl (q_move rfl) rfl fun a hA => ?_
             refine gq hA rfl rfl (q_move rfl) rfl fun a hA => ?_
             refine gl hA rfl rfl (lo_call fn16 rfl (same_any _ _ _ _ (Own.rd0 hO_t130 hH 4 rfl) (Own.rd0 hO_t138 hH 1 rfl) (by first | omega | (simp; done) | (simp; omega)) (by first | omega | (simp; done) | (simp; omega)))) rfl ?_
             rintro _ w ⟨rfl, hC⟩ a hA
             replace hH := HS.call0 hH hC
             clear hC
             replace hA := hA.decT (by rfl)
             refine gq hA rfl rfl (q_not rfl) rfl fun a hA => ?_
             refine sq hA (q_pick_f rfl rfl) rfl fun a hA => ?_
             refine wpList_nil ?_
             refine hK100 _ _ ?_
             clear hK100
             refine cond_f hA rfl ?_
             refine wp_skip ?_
             refine block_normal ?_
             refine hK78 _ _ ?_
             clear hK78
             refine wp_region_lit ?_
             refine mv hA fun a hA => ?_
             refine sq hA (q_addI (n := 1) rfl rfl (by omega)) rfl fun a hA => ?_
             refine asg hA fun a hA => ?_
             refine wpList_nil ?_
             replace hH := hH.pick [10, 3, 0, 11, 1, 2, 4, 5, 6, 7, 8, 9] (Hs' := [_, _, _, _, _, _, _, _, _, _, _, _]) rfl
             replace hH := hH.pick [0, 1, 2, 3] (Hs' := [_, _, _, _]) rfl
             exact ⟨_, by omega, i + 1, R.2.1, R.2.2, N_w, N_v, hA.sub ⟨rfl, rfl, rfl, rfl, rfl, rfl, rfl, rfl, rfl, trivial⟩, hH, by omega, by exact hW_w, by exact hW_v, rfl⟩
            ·skip
             refine p0 hA 9 1023 rfl (fun w => (q_assign rfl)) fun a hA => ?_
             refine p0 hA 10 2047 rfl (fun w => (q_assign rfl)) fun a hA => ?_
             refine a_end (by kernel_rfl) ?_ _
             refine hK95 _ _ ?_
             clear hK95
             refine wp_seq_k fun K101 hK101 => ?_
             refine wp_seq_k fun K102 hK102 => ?_
             refine wp_region_lit ?_
             refine mv hA fun a hA => ?_
             refine sq hA (q_not rfl) rfl fun a hA => ?_
             refine wpList_nil ?_
             refine hK102 _ _ ?_
             clear hK102
             refine cond_t hA rfl ?_
             refine wp_exit ?_
             refine then_exit ?_
             refine exit_here ?_
             refine hK78 _ _ ?_
             clear hK78
             refine wp_region_lit ?_
             refine mv hA fun a hA => ?_
             refine sq hA (q_addI (n := 1) rfl rfl (by omega)) rfl fun a hA => ?_
             refine asg hA fun a hA => ?_
             refine wpList_nil ?_
             replace hH := hH.pick [4, 5, 6, 7, 0, 1, 2, 3] (Hs' := [_, _, _, _, _, _, _, _]) rfl
             replace hH := hH.pick [0, 1, 2, 3] (Hs' := [_, _, _, _]) rfl
             exact ⟨_, by omega, i + 1, x, did, N_w, N_v, hA.sub ⟨rfl, rfl, rfl, rfl, rfl, rfl, rfl, rfl, rfl, trivial⟩, hH, by omega, by exact hW_w, by exact hW_v, rfl⟩
           ·skip
            refine wpList_nil ?_
            refine hK94 _ _ ?_
            clear hK94
            refine cond_f hA rfl ?_
            refine wp_skip ?_
            refine block_normal ?_
            refine hK78 _ _ ?_
            clear hK78
            refine wp_region_lit ?_
            refine mv hA fun a hA => ?_
            refine sq hA (q_addI (n := 1) rfl rfl (by omega)) rfl fun a hA => ?_
            refine asg hA fun a hA => ?_
            refine wpList_nil ?_
            replace hH := hH.pick [3, 4, 5, 6, 0, 1, 2] (Hs' := [_, _, _, _, _, _, _]) rfl
            replace hH := hH.pick [0, 1, 2, 3] (Hs' := [_, _, _, _]) rfl
            exact ⟨_, by omega, i + 1, x, did, N_w, N_v, hA.sub ⟨rfl, rfl, rfl, rfl, rfl, rfl, rfl, rfl, rfl, trivial⟩, hH, by omega, by exact hW_w, by exact hW_v, rfl⟩
         ·skip
          refine o1 hA 9 543 rfl (lo_allocA hH ti64) ?_
          clear hH; rintro _ w ⟨b_t16, rfl, hH⟩
          replace hS := hH.pick [1, 2, 3, 4] (Hs' := [_, _, _, _]) rfl
          refine ⟨fun _ _ => hS, ?_⟩
          intro a hA
          refine a1n hA 5 575 rfl (lo_call fn40 rfl (refdecw_g (hg.mono0 hH) _ (by first | exact hkey | exact hnn | exact hDn | exact hn2 | (first | assumption | (rw [List.length_map]; assumption) | rfl | exact sha_length _ | (simp; done) | (simp [*]; done) | omega)) _ _ (hH.rd (hvr_t86 (i) (by first | omega | (simp; done) | (simp; omega) | (rw [List.length_map]; assumption) | assumption | rfl | (simp [*]; done) | (simp [*]; omega)))) (by first | omega | (simp; done) | (simp; omega)) hD)) ?_
          rintro _ w ⟨v_at87, v_bt87, N_at87, N_bt87, rfl, hO_at87, hO_bt87, hC⟩
          replace hH := HS.call0 hH hC
          clear hC
          intro a hA
          refine p0 hA 6 639 rfl (fun w => (q_move rfl)) fun a hA => ?_
          refine p0 hA 7 767 rfl (fun w => (q_extract rfl rfl)) fun a hA => ?_
          refine p0 hA 8 1023 rfl (fun w => (q_extract rfl rfl)) fun a hA => ?_
          replace hH := hH.pick [2, 0, 1, 3, 4, 5, 6] (Hs' := [_, _, _, _, _, _, _]) rfl
          refine a0n hA 10 2047 rfl (lo_storeAm hH ti64 rfl rfl (by first | rfl | exact ordC_length hDn) (by first | rfl | exact ordC_length hDn) (ordC_one (Own.one hO_at87) (Own.one hO_bt87))) ?_
          clear hH; rintro _ w hH
          refine p0 hA 11 4095 rfl (fun w => (q_assign rfl)) fun a hA => ?_
          refine a_end (by kernel_rfl) ?_ _
          refine hK81 _ _ ?_
          clear hK81
          refine wp_seq_k fun K103 hK103 => ?_
          refine wp_region_lit ?_
          refine mv hA fun a hA => ?_
          refine sq hA (q_neqI (n := 0) rfl rfl) rfl fun a hA => ?_
          refine hA.spl (fun hs91 hA => ?_) (fun hs91 hA => ?_)
          ·skip
           refine wpList_nil ?_
           refine hK103 _ _ ?_
           clear hK103
           refine cond_t hA rfl ?_
           refine wp_seq_k fun K104 hK104 => ?_
           refine wp_region_lit ?_
           refine mv hA fun a hA => ?_
           refine sl hA (lo_bs (f := B8) (e := 5) ([]) hH rfl rfl (fun w => by kernel_rfl)) rfl ?_
           clear hH; rintro v_t94 w ⟨N_t94, hO_t94, hH⟩ a hA
           refine mv hA fun a hA => ?_
           refine mv hA fun a hA => ?_
           refine sq hA (q_idx1 (i) Tryd.underlying80 ti22 rfl rfl (by first | omega | rfl) (RdR.shp hro) (by first | omega | (simp; done) | (simp; omega) | (rw [List.length_map]; assumption) | assumption | rfl | (simp [*]; done) | (simp [*]; omega))) rfl fun a hA => ?_
           have hx_t98 := hro
           obtain ⟨vs_t98, hvl_t98, hvo_t98, hvr_t98⟩ := hx_t98
           refine sq hA (q_loadR Tryd.underlying22 rfl rfl (hH.rd hvo_t98) (by first | omega | (simp; done) | (simp; omega) | (rw [List.length_map]; assumption) | assumption | rfl | (simp [*]; done) | (simp [*]; omega)) (getD_some' vs_t98 nilV (by first | omega | (simp; done) | (simp; omega) | (rw [List.length_map]; assumption) | assumption | rfl | (simp [*]; done) | (simp [*]; omega)))) rfl fun a hA => ?_
           refine sl hA (lo_appm hH Tryd.underlying22 Tryd.underlying22 (.inl rfl) ti5 rfl rfl rfl hO_t94 (Rd.src (hH.rd (hvr_t98 (i) (by first | omega | (simp; done) | (simp; omega) | (rw [List.length_map]; assumption) | assumption | rfl | (simp [*]; done) | (simp [*]; omega))))) (one_B8 _) (by first | omega | (simp; done) | (simp; omega)) (by first | omega | (simp; done) | (simp; omega))) rfl ?_
           clear hH; rintro v_t99 w ⟨N_t99, hO_t99, hH⟩ a hA
           replace hH := hH.pick [5, 0, 1, 2, 3, 4, 6, 7] (Hs' := [_, _, _, _, _, _, _, _]) rfl
           refine sl hA (lo_call fn48 rfl (hear_b (hg.mono0 hH) key hkey s hsd n h hR b_w x did N_w hW_w (hg.ng NG.nil hH) _ _ (Own.rdM hO_t99 (Ns1 := [_]) hH 0 rfl) (by first | omega | (simp; done) | (simp; omega)) D hD (by omega) (HS.handed (Ns1 := [_]) hH))) rfl ?_
           rintro _ w ⟨v_t100, N_t100, N_w, rfl, hO_t100, hW_w, hC⟩ a hA
           replace hH := HS.call (Ns1 := [_]) hH hC
           clear hC
           refine mv hA fun a hA => ?_
           refine sq hA (q_extract rfl rfl) rfl fun a hA => ?_
           refine sq hA (q_extract rfl rfl) rfl fun a hA => ?_
           refine asg hA fun a hA => ?_
           refine asg hA fun a hA => ?_
           refine wpList_nil ?_
           refine hK104 _ _ ?_
           clear hK104
           refine wp_seq_k fun K105 hK105 => ?_
           refine wp_region_lit ?_
           refine mv hA fun a hA => ?_
           refine sq hA (q_eqlI (n := 0) rfl rfl) rfl fun a hA => ?_
           replace hA := hA.decF (by omega)
           refine mv hA fun a hA => ?_
           refine gq hA rfl rfl (q_move rfl) rfl fun a hA => ?_
           refine gq hA rfl rfl (q_len Tryd.underlying22 rfl (Own.shp hO_t100)) rfl fun a hA => ?_
           refine gq hA rfl rfl (q_neqI (n := 0) rfl rfl) rfl fun a hA => ?_
           replace hA := hA.decF (by exact fun h => h rfl)
           refine sq hA (q_pick_f rfl rfl) rfl fun a hA => ?_
           refine wpList_nil ?_
           refine hK105 _ _ ?_
           clear hK105
           refine cond_f hA rfl ?_
           refine wp_skip ?_
           refine hK79 _ _ ?_
           clear hK79
           refine wp_seq_k fun K106 hK106 => ?_
           refine wp_region_lit ?_
           refine mv hA fun a hA => ?_
           refine mv hA fun a hA => ?_
           refine sq hA (q_len Tryd.underlying79 rfl (Rd.shp hr.1)) rfl fun a hA => ?_
           refine sq hA (q_lssI rfl rfl) rfl fun a hA => ?_
           refine hA.spl (fun hs113 hA => ?_) (fun hs113 hA => ?_)
           ·skip
            obtain ⟨e, hem, hE39, hE37, hu, hx, hn, hb⟩ := hr.get (i := i) (by omega)
            have he : HdOk [] w0 e := ⟨hu, hx, hn, hb⟩
            refine wpList_nil ?_
            refine hK106 _ _ ?_
            clear hK106
            refine cond_t hA rfl ?_
            refine wp_seq_k fun K107 hK107 => ?_
            refine any_go mixed (fun j => !(Nat.beq j 5)) hH ?_
            clear hH; intro w hH
            have hS := hH
            refine any_l 11 ?_
            refine r0 hA 0 1 rfl hS (fun w hH => (q_loadW hH 6 rfl Tryd.underlying24 rfl ti24 rfl (by first | omega | (simp; done) | (simp; omega) | (rw [List.length_map]; assumption) | assumption | rfl | (simp [*]; done) | (simp [*]; omega)))) fun a hA => ?_
            refine p0 hA 1 3 rfl (fun w => (q_move rfl)) fun a hA => ?_
            refine p0 hA 2 7 rfl (fun w => (q_move rfl)) fun a hA => ?_
            refine p0 hA 3 15 rfl (fun w => (q_idxk (i) Tryd.underlying79 ti90 rfl rfl (by first | omega | rfl) (Rd.shp hr.1) (by first | omega | (simp; done) | (simp; omega) | (rw [List.length_map]; assumption) | assumption | rfl | (simp [*]; done) | (simp [*]; omega)))) fun a hA => ?_
            refine r0 hA 4 31 rfl hS (fun w hH => (q_loadRs Tryd.underlying90 rfl ti90 rfl (hH.rd hr.1) (by omega) _ hE39)) fun a hA => ?_
            refine a1n hA 5 63 rfl (lo_call fn49 rfl (bytesOf_any (hg.mono0 hH) _ (by first | exact hkey | exact hnn | exact hDn | exact hn2 | (first | assumption | (rw [List.length_map]; assumption) | rfl | exact sha_length _ | (simp; done) | (simp [*]; done) | omega)) e (HdOk.mv hH he))) ?_
            rintro _ w ⟨v_t120, N_t120, l_t120, b_t120, rfl, hO_t120, hl_t120, hC⟩
            replace hH := HS.call0 hH hC
            clear hC
            obtain ⟨D0, hD0⟩ : ∃ D, D = decO key l_t120 := ⟨_, rfl⟩
            obtain ⟨R, hRR⟩ : ∃ R, R = hearD s n h x did l_t120 D0 := ⟨_, rfl⟩
            intro a hA
            refine p0 hA 6 127 rfl (fun w => (q_move rfl)) fun a hA => ?_
            refine p0 hA 7 255 rfl (fun w => (q_extract rfl rfl)) fun a hA => ?_
            refine p0 hA 8 511 rfl (fun w => (q_extract rfl rfl)) fun a hA => ?_
            refine hA.spl (fun hs122 hA => ?_) (fun hs122 hA => ?_)
            ·skip
             refine p0 hA 9 1023 rfl (fun w => (q_assign rfl)) fun a hA => ?_
             refine p0 hA 10 2047 rfl (fun w => (q_assign rfl)) fun a hA => ?_
             refine a_end (by kernel_rfl) ?_ _
             refine hK107 _ _ ?_
             clear hK107
             refine wp_seq_k fun K108 hK108 => ?_
             refine wp_seq_k fun K109 hK109 => ?_
             refine wp_region_lit ?_
             refine mv hA fun a hA => ?_
             refine sq hA (q_not rfl) rfl fun a hA => ?_
             refine wpList_nil ?_
             refine hK109 _ _ ?_
             clear hK109
             refine cond_f hA rfl ?_
             refine wp_skip ?_
             refine hK108 _ _ ?_
             clear hK108
             refine wp_seq_k fun K110 hK110 => ?_
             refine wp_region_lit ?_
             refine mv hA fun a hA => ?_
             refine sl hA (lo_bs (f := B8) (e := 5) ([]) hH rfl rfl (fun w => by kernel_rfl)) rfl ?_
             clear hH; rintro v_t127 w ⟨N_t127, hO_t127, hH⟩ a hA
             refine mv hA fun a hA => ?_
             refine sl hA (lo_appm hH Tryd.underlying22 Tryd.underlying22 (.inl rfl) ti5 rfl rfl rfl hO_t127 (Rd.src (Own.rd0 hO_t120 hH 1 rfl)) (one_B8 _) (by first | omega | (simp; done) | (simp; omega)) (by first | omega | (simp; done) | (simp; omega))) rfl ?_
             clear hH; rintro v_t129 w ⟨N_t129, hO_t129, hH⟩ a hA
             replace hH := hH.pick [2, 0, 1, 3, 4, 5, 6, 7, 8, 9, 10] (Hs' := [_, _, _, _, _, _, _, _, _, _, _]) rfl
             refine sl hA (lo_call fn48 rfl (hear_r (hg.mono0 hH) key hkey s hsd n h hR b_w x did N_w hW_w (hg.ng NG.nil hH) _ _ (Own.rdM hO_t129 (Ns1 := [_]) hH 0 rfl) (by first | omega | (simp; done) | (simp; omega)) D0 hD0 hRR (HS.handed (Ns1 := [_]) hH))) rfl ?_
             rintro _ w ⟨v_t130, N_t130, N_w, rfl, hO_t130, hl_t130, hW_w, hC⟩ a hA
             replace hH := HS.call (Ns1 := [_]) hH hC
             clear hC
             refine mv hA fun a hA => ?_
             refine sq hA (q_extract rfl rfl) rfl fun a hA => ?_
             refine sq hA (q_extract rfl rfl) rfl fun a hA => ?_
             refine asg hA fun a hA => ?_
             refine asg hA fun a hA => ?_
             refine wpList_nil ?_
             refine hK110 _ _ ?_
             clear hK110
             refine wp_seq_k fun K111 hK111 => ?_
             refine wp_region_lit ?_
             refine mv hA fun a hA => ?_
             refine sl hA (lo_bs (f := B8) (e := 5) ([]) hH rfl rfl (fun w => by kernel_rfl)) rfl ?_
             clear hH; rintro v_t135 w ⟨N_t135, hO_t135, hH⟩ a hA
             refine mv hA fun a hA => ?_
             refine sl hA (lo_appm hH Tryd.underlying22 Tryd.underlying22 (.inl rfl) ti5 rfl rfl rfl hO_t135 (Rd.src (Own.rd0 hO_t120 hH 4 rfl)) (one_B8 _) (by first | omega | (simp; done) | (simp; omega)) (by first | omega | (simp; done) | (simp; omega))) rfl ?_
             clear hH; rintro v_t137 w ⟨N_t137, hO_t137, hH⟩ a hA
             replace hH := hH.pick [11, 0, 1, 2, 3, 4, 5, 6, 7, 8, 9, 10, 12] (Hs' := [_, _, _, _, _, _, _, _, _, _, _, _, _]) rfl
             refine sl hA (lo_call fn48 rfl (hear_r (hg.mono0 hH) key hkey s hsd n h hR b_v x did N_v hW_v (hg.ng NG.nil hH) _ _ (Own.rdM hO_t137 (Ns1 := [_]) hH 0 rfl) (by first | omega | (simp; done) | (simp; omega)) D0 hD0 hRR (HS.handed (Ns1 := [_]) hH))) rfl ?_
             rintro _ w ⟨v_t138, N_t138, N_v, rfl, hO_t138, hl_t138, hW_v, hC⟩ a hA
             replace hH := HS.call (Ns1 := [_]) hH hC
             clear hC
             refine mv hA fun a hA => ?_
             refine sq hA (q_extract rfl rfl) rfl fun a hA => ?_
             refine sq hA (q_extract rfl rfl) rfl fun a hA => ?_
             refine asg hA fun a hA => ?_
             refine asg hA fun a hA => ?_
             refine wpList_nil ?_
             refine hK111 _ _ ?_
             clear hK111
             refine wp_seq_k fun K112 hK112 => ?_
             refine wp_region_lit ?_
             refine mv hA fun a hA => ?_
             refine mv hA fun a hA => ?_
             refine sq hA (q_neqI rfl rfl) rfl fun a hA => ?_
             replace hA := hA.decF (by exact fun h => h rfl)
             refine mv hA fun a hA => ?_
             refine gq hA rfl rfl (q_move rfl) rfl fun a hA => ?_
             refine gq hA rfl rfl (q_move rfl) rfl fun a hA => ?_
             refine gl hA rfl rfl (lo_call fn16 rfl (same_any _ _ _ _ (Own.rd0 hO_t130 hH 4 rfl) (Own.rd0 hO_t138 hH 1 rfl) (by first | omega | (simp; done) | (simp; omega)) (by first | omega | (simp; done) | (simp; omega)))) rfl ?_
             rintro _ w ⟨rfl, hC⟩ a hA
             replace hH := HS.call0 hH hC
             clear hC
             replace hA := hA.decT (by rfl)
             refine gq hA rfl rfl (q_not rfl) rfl fun a hA => ?_
             refine sq hA (q_pick_f rfl rfl) rfl fun a hA => ?_
             refine wpList_nil ?_
             refine hK112 _ _ ?_
             clear hK112
             refine cond_f hA rfl ?_
             refine wp_skip ?_
             refine block_normal ?_
             refine hK78 _ _ ?_
             clear hK78
             refine wp_region_lit ?_
             refine mv hA fun a hA => ?_
             refine sq hA (q_addI (n := 1) rfl rfl (by omega)) rfl fun a hA => ?_
             refine asg hA fun a hA => ?_
             refine wpList_nil ?_
             replace hH := hH.pick [12, 3, 0, 13, 1, 2, 4, 5, 6, 7, 8, 9, 10, 11] (Hs' := [_, _, _, _, _, _, _, _, _, _, _, _, _, _]) rfl
             replace hH := hH.pick [0, 1, 2, 3] (Hs' := [_, _, _, _]) rfl
             exact ⟨_, by omega, i + 1, R.2.1, R.2.2, N_w, N_v, hA.sub ⟨rfl, rfl, rfl, rfl, rfl, rfl, rfl, rfl, rfl, trivial⟩, hH, by omega, by exact hW_w, by exact hW_v, rfl⟩
            ·skip
             refine p0 hA 9 1023 rfl (fun w => (q_assign rfl)) fun a hA => ?_
             refine p0 hA 10 2047 rfl (fun w => (q_assign rfl)) fun a hA => ?_
             refine a_end (by kernel_rfl) ?_ _
             refine hK107 _ _ ?_
             clear hK107
             refine wp_seq_k fun K113 hK113 => ?_
             refine wp_seq_k fun K114 hK114 => ?_
             refine wp_region_lit ?_
             refine mv hA fun a hA => ?_
             refine sq hA (q_not rfl) rfl fun a hA => ?_
             refine wpList_nil ?_
             refine hK114 _ _ ?_
             clear hK114
             refine cond_t hA rfl ?_
             refine wp_exit ?_
             refine then_exit ?_
             refine exit_here ?_
             refine hK78 _ _ ?_
             clear hK78
             refine wp_region_lit ?_
             refine mv hA fun a hA => ?_
             refine sq hA (q_addI (n := 1) rfl rfl (by omega)) rfl fun a hA => ?_
             refine asg hA fun a hA => ?_
             refine wpList_nil ?_
             replace hH := hH.pick [7, 1, 8, 9, 0, 2, 3, 4, 5, 6] (Hs' := [_, _, _, _, _, _, _, _, _, _]) rfl
             replace hH := hH.pick [0, 1, 2, 3] (Hs' := [_, _, _, _]) rfl
             exact ⟨_, by omega, i + 1, x, did, N_w, N_v, hA.sub ⟨rfl, rfl, rfl, rfl, rfl, rfl, rfl, rfl, rfl, trivial⟩, hH, by omega, by exact hW_w, by exact hW_v, rfl⟩
           ·skip
            refine wpList_nil ?_
            refine hK106 _ _ ?_
            clear hK106
            refine cond_f hA rfl ?_
            refine wp_skip ?_
            refine block_normal ?_
            refine hK78 _ _ ?_
            clear hK78
            refine wp_region_lit ?_
            refine mv hA fun a hA => ?_
            refine sq hA (q_addI (n := 1) rfl rfl (by omega)) rfl fun a hA => ?_
            refine asg hA fun a hA => ?_
            refine wpList_nil ?_
            replace hH := hH.pick [6, 0, 7, 8, 1, 2, 3, 4, 5] (Hs' := [_, _, _, _, _, _, _, _, _]) rfl
            replace hH := hH.pick [0, 1, 2, 3] (Hs' := [_, _, _, _]) rfl
            exact ⟨_, by omega, i + 1, x, did, N_w, N_v, hA.sub ⟨rfl, rfl, rfl, rfl, rfl, rfl, rfl, rfl, rfl, trivial⟩, hH, by omega, by exact hW_w, by exact hW_v, rfl⟩
          ·skip
           refine wpList_nil ?_
           refine hK103 _ _ ?_
           clear hK103
           refine cond_f hA rfl ?_
           refine wp_skip ?_
           refine hK79 _ _ ?_
           clear hK79
           refine wp_seq_k fun K115 hK115 => ?_
           refine wp_region_lit ?_
           refine mv hA fun a hA => ?_
           refine mv hA fun a hA => ?_
           refine sq hA (q_len Tryd.underlying79 rfl (Rd.shp hr.1)) rfl fun a hA => ?_
           refine sq hA (q_lssI rfl rfl) rfl fun a hA => ?_
           refine hA.spl (fun hs113 hA => ?_) (fun hs113 hA => ?_)
           ·skip
            obtain ⟨e, hem, hE39, hE37, hu, hx, hn, hb⟩ := hr.get (i := i) (by omega)
            have he : HdOk [] w0 e := ⟨hu, hx, hn, hb⟩
            refine wpList_nil ?_
            refine hK115 _ _ ?_
            clear hK115
            refine cond_t hA rfl ?_
            refine wp_seq_k fun K116 hK116 => ?_
            refine any_go mixed (fun j => !(Nat.beq j 5)) hH ?_
            clear hH; intro w hH
            have hS := hH
            refine any_l 11 ?_
            refine r0 hA 0 1 rfl hS (fun w hH => (q_loadW hH 3 rfl Tryd.underlying24 rfl ti24 rfl (by first | omega | (simp; done) | (simp; omega) | (rw [List.length_map]; assumption) | assumption | rfl | (simp [*]; done) | (simp [*]; omega)))) fun a hA => ?_
            refine p0 hA 1 3 rfl (fun w => (q_move rfl)) fun a hA => ?_
            refine p0 hA 2 7 rfl (fun w => (q_move rfl)) fun a hA => ?_
            refine p0 hA 3 15 rfl (fun w => (q_idxk (i) Tryd.underlying79 ti90 rfl rfl (by first | omega | rfl) (Rd.shp hr.1) (by first | omega | (simp; done) | (simp; omega) | (rw [List.length_map]; assumption) | assumption | rfl | (simp [*]; done) | (simp [*]; omega)))) fun a hA => ?_
            refine r0 hA 4 31 rfl hS (fun w hH => (q_loadRs Tryd.underlying90 rfl ti90 rfl (hH.rd hr.1) (by omega) _ hE39)) fun a hA => ?_
            refine a1n hA 5 63 rfl (lo_call fn49 rfl (bytesOf_any (hg.mono0 hH) _ (by first | exact hkey | exact hnn | exact hDn | exact hn2 | (first | assumption | (rw [List.length_map]; assumption) | rfl | exact sha_length _ | (simp; done) | (simp [*]; done) | omega)) e (HdOk.mv hH he))) ?_
            rintro _ w ⟨v_t120, N_t120, l_t120, b_t120, rfl, hO_t120, hl_t120, hC⟩
            replace hH := HS.call0 hH hC
            clear hC
            obtain ⟨D0, hD0⟩ : ∃ D, D = decO key l_t120 := ⟨_, rfl⟩
            obtain ⟨R, hRR⟩ : ∃ R, R = hearD s n h x did l_t120 D0 := ⟨_, rfl⟩
            intro a hA
            refine p0 hA 6 127 rfl (fun w => (q_move rfl)) fun a hA => ?_
            refine p0 hA 7 255 rfl (fun w => (q_extract rfl rfl)) fun a hA => ?_
            refine p0 hA 8 511 rfl (fun w => (q_extract rfl rfl)) fun a hA => ?_
            refine hA.spl (fun hs122 hA => ?_) (fun hs122 hA => ?_)
            ·skip
             refine p0 hA 9 1023 rfl (fun w => (q_assign rfl)) fun a hA => ?_
             refine p0 hA 10 2047 rfl (fun w => (q_assign rfl)) fun a hA => ?_
             refine a_end (by kernel_rfl) ?_ _
             refine hK116 _ _ ?_
             clear hK116
             refine wp_seq_k fun K117 hK117 => ?_
             refine wp_seq_k fun K118 hK118 => ?_
             refine wp_region_lit ?_
             refine mv hA fun a hA => ?_
             refine sq hA (q_not rfl) rfl fun a hA => ?_
             refine wpList_nil ?_
             refine hK118 _ _ ?_
             clear hK118
             refine cond_f hA rfl ?_
             refine wp_skip ?_
             refine hK117 _ _ ?_
             clear hK117
             refine wp_seq_k fun K119 hK119 => ?_
             refine wp_region_lit ?_
             refine mv hA fun a hA => ?_
             refine sl hA (lo_bs (f := B8) (e := 5) ([]) hH rfl rfl (fun w => by kernel_rfl)) rfl ?_
             clear hH; rintro v_t127 w ⟨N_t127, hO_t127, hH⟩ a hA
             refine mv hA fun a hA => ?_
             refine sl hA (lo_appm hH Tryd.underlying22 Tryd.underlying22 (.inl rfl) ti5 rfl rfl rfl hO_t127 (Rd.src (Own.rd0 hO_t120 hH 1 rfl)) (one_B8 _) (by first | omega | (simp; done) | (simp; omega)) (by first | omega | (simp; done) | (simp; omega))) rfl ?_
             clear hH; rintro v_t129 w ⟨N_t129, hO_t129, hH⟩ a hA
             replace hH := hH.pick [6, 0, 1, 2, 3, 4, 5, 7, 8] (Hs' := [_, _, _, _, _, _, _, _, _]) rfl
             refine sl hA (lo_call fn48 rfl (hear_r (hg.mono0 hH) key hkey s hsd n h hR b_w x did N_w hW_w (hg.ng NG.nil hH) _ _ (Own.rdM hO_t129 (Ns1 := [_]) hH 0 rfl) (by first | omega | (simp; done) | (simp; omega)) D0 hD0 hRR (HS.handed (Ns1 := [_]) hH))) rfl ?_
             rintro _ w ⟨v_t130, N_t130, N_w, rfl, hO_t130, hl_t130, hW_w, hC⟩ a hA
             replace hH := HS.call (Ns1 := [_]) hH hC
             clear hC
             refine mv hA fun a hA => ?_
             refine sq hA (q_extract rfl rfl) rfl fun a hA => ?_
             refine sq hA (q_extract rfl rfl) rfl fun a hA => ?_
             refine asg hA fun a hA => ?_
             refine asg hA fun a hA => ?_
             refine wpList_nil ?_
             refine hK119 _ _ ?_
             clear hK119
             refine wp_seq_k fun K120 hK120 => ?_
             refine wp_region_lit ?_
             refine mv hA fun a hA => ?_
             refine sl hA (lo_bs (f := B8) (e := 5) ([]) hH rfl rfl (fun w => by kernel_rfl)) rfl ?_
             clear hH; rintro v_t135 w ⟨N_t135, hO_t135, hH⟩ a hA
             refine mv hA fun a hA => ?_
             refine sl hA (lo_appm hH Tryd.underlying22 Tryd.underlying22 (.inl rfl) ti5 rfl rfl rfl hO_t135 (Rd.src (Own.rd0 hO_t120 hH 4 rfl)) (one_B8 _) (by first | omega | (simp; done) | (simp; omega)) (by first | omega | (simp; done) | (simp; omega))) rfl ?_
             clear hH; rintro v_t137 w ⟨N_t137, hO_t137, hH⟩ a hA
             replace hH := hH.pick [9, 0, 1, 2, 3, 4, 5, 6, 7, 8, 10] (Hs' := [_, _, _, _, _, _, _, _, _, _, _]) rfl
             refine sl hA (lo_call fn48 rfl (hear_r (hg.mono0 hH) key hkey s hsd n h hR b_v x did N_v hW_v (hg.ng NG.nil hH) _ _ (Own.rdM hO_t137 (Ns1 := [_]) hH 0 rfl) (by first | omega | (simp; done) | (simp; omega)) D0 hD0 hRR (HS.handed (Ns1 := [_]) hH))) rfl ?_
             rintro _ w ⟨v_t138, N_t138, N_v, rfl, hO_t138, hl_t138, hW_v, hC⟩ a hA
             replace hH := HS.call (Ns1 := [_]) hH hC
             clear hC
             refine mv hA fun a hA => ?_
             refine sq hA (q_extract rfl rfl) rfl fun a hA => ?_
             refine sq hA (q_extract rfl rfl) rfl fun a hA => ?_
             refine asg hA fun a hA => ?_
             refine asg hA fun a hA => ?_
             refine wpList_nil ?_
             refine hK120 _ _ ?_
             clear hK120
             refine wp_seq_k fun K121 hK121 => ?_
             refine wp_region_lit ?_
             refine mv hA fun a hA => ?_
             refine mv hA fun a hA => ?_
             refine sq hA (q_neqI rfl rfl) rfl fun a hA => ?_
             replace hA := hA.decF (by exact fun h => h rfl)
             refine mv hA fun a hA => ?_
             refine gq hA rfl rfl (q_move rfl) rfl fun a hA => ?_
             refine gq hA rfl rfl (q_move rfl) rfl fun a hA => ?_
             refine gl hA rfl rfl (lo_call fn16 rfl (same_any _ _ _ _ (Own.rd0 hO_t130 hH 4 rfl) (Own.rd0 hO_t138 hH 1 rfl) (by first | omega | (simp; done) | (simp; omega)) (by first | omega | (simp; done) | (simp; omega)))) rfl ?_
             rintro _ w ⟨rfl, hC⟩ a hA
             replace hH := HS.call0 hH hC
             clear hC
             replace hA := hA.decT (by rfl)
             refine gq hA rfl rfl (q_not rfl) rfl fun a hA => ?_
             refine sq hA (q_pick_f rfl rfl) rfl fun a hA => ?_
             refine wpList_nil ?_
             refine hK121 _ _ ?_
             clear hK121
             refine cond_f hA rfl ?_
             refine wp_skip ?_
             refine block_normal ?_
             refine hK78 _ _ ?_
             clear hK78
             refine wp_region_lit ?_
             refine mv hA fun a hA => ?_
             refine sq hA (q_addI (n := 1) rfl rfl (by omega)) rfl fun a hA => ?_
             refine asg hA fun a hA => ?_
             refine wpList_nil ?_
             replace hH := hH.pick [10, 3, 0, 11, 1, 2, 4, 5, 6, 7, 8, 9] (Hs' := [_, _, _, _, _, _, _, _, _, _, _, _]) rfl
             replace hH := hH.pick [0, 1, 2, 3] (Hs' := [_, _, _, _]) rfl
             exact ⟨_, by omega, i + 1, R.2.1, R.2.2, N_w, N_v, hA.sub ⟨rfl, rfl, rfl, rfl, rfl, rfl, rfl, rfl, rfl, trivial⟩, hH, by omega, by exact hW_w, by exact hW_v, rfl⟩
            ·skip
             refine p0 hA 9 1023 rfl (fun w => (q_assign rfl)) fun a hA => ?_
             refine p0 hA 10 2047 rfl (fun w => (q_assign rfl)) fun a hA => ?_
             refine a_end (by kernel_rfl) ?_ _
             refine hK116 _ _ ?_
             clear hK116
             refine wp_seq_k fun K122 hK122 => ?_
             refine wp_seq_k fun K123 hK123 => ?_
             refine wp_region_lit ?_
             refine mv hA fun a hA => ?_
             refine sq hA (q_not rfl) rfl fun a hA => ?_
             refine wpList_nil ?_
             refine hK123 _ _ ?_
             clear hK123
             refine cond_t hA rfl ?_
             refine wp_exit ?_
             refine then_exit ?_
             refine exit_here ?_
             refine hK78 _ _ ?_
             clear hK78
             refine wp_region_lit ?_
             refine mv hA fun a hA => ?_
             refine sq hA (q_addI (n := 1) rfl rfl (by omega)) rfl fun a hA => ?_
             refine asg hA fun a hA => ?_
             refine wpList_nil ?_
             replace hH := hH.pick [4, 5, 6, 7, 0, 1, 2, 3] (Hs' := [_, _, _, _, _, _, _, _]) rfl
             replace hH := hH.pick [0, 1, 2, 3] (Hs' := [_, _, _, _]) rfl
             exact ⟨_, by omega, i + 1, x, did, N_w, N_v, hA.sub ⟨rfl, rfl, rfl, rfl, rfl, rfl, rfl, rfl, rfl, trivial⟩, hH, by omega, by exact hW_w, by exact hW_v, rfl⟩
           ·skip
            refine wpList_nil ?_
            refine hK115 _ _ ?_
            clear hK115
            refine cond_f hA rfl ?_
            refine wp_skip ?_
            refine block_normal ?_
            refine hK78 _ _ ?_
            clear hK78
            refine wp_region_lit ?_
            refine mv hA fun a hA => ?_
            refine sq hA (q_addI (n := 1) rfl rfl (by omega)) rfl fun a hA => ?_
            refine asg hA fun a hA => ?_
            refine wpList_nil ?_
            replace hH := hH.pick [3, 4, 5, 6, 0, 1, 2] (Hs' := [_, _, _, _, _, _, _]) rfl
            replace hH := hH.pick [0, 1, 2, 3] (Hs' := [_, _, _, _]) rfl
            exact ⟨_, by omega, i + 1, x, did, N_w, N_v, hA.sub ⟨rfl, rfl, rfl, rfl, rfl, rfl, rfl, rfl, rfl, trivial⟩, hH, by omega, by exact hW_w, by exact hW_v, rfl⟩
        ·skip
         refine sq hA (q_pick_t rfl rfl) rfl fun a hA => ?_
         refine wpList_nil ?_
         refine hK80 _ _ ?_
         clear hK80
         refine cond_f hA rfl ?_
         refine wp_skip ?_
         refine hK79 _ _ ?_
         clear hK79
         refine wp_seq_k fun K124 hK124 => ?_
         refine wp_region_lit ?_
         refine mv hA fun a hA => ?_
         refine mv hA fun a hA => ?_
         refine sq hA (q_len Tryd.underlying79 rfl (Rd.shp hr.1)) rfl fun a hA => ?_
         refine sq hA (q_lssI rfl rfl) rfl fun a hA => ?_
         refine hA.spl (fun hs113 hA => ?_) (fun hs113 hA => ?_)
         ·skip
          obtain ⟨e, hem, hE39, hE37, hu, hx, hn, hb⟩ := hr.get (i := i) (by omega)
          have he : HdOk [] w0 e := ⟨hu, hx, hn, hb⟩
          refine wpList_nil ?_
          refine hK124 _ _ ?_
          clear hK124
          refine cond_t hA rfl ?_
          refine wp_seq_k fun K125 hK125 => ?_
          refine any_go mixed (fun j => !(Nat.beq j 5)) hH ?_
          clear hH; intro w hH
          have hS := hH
          refine any_l 11 ?_
          refine r0 hA 0 1 rfl hS (fun w hH => (q_loadW hH 0 rfl Tryd.underlying24 rfl ti24 rfl (by first | omega | (simp; done) | (simp; omega) | (rw [List.length_map]; assumption) | assumption | rfl | (simp [*]; done) | (simp [*]; omega)))) fun a hA => ?_
          refine p0 hA 1 3 rfl (fun w => (q_move rfl)) fun a hA => ?_
          refine p0 hA 2 7 rfl (fun w => (q_move rfl)) fun a hA => ?_
          refine p0 hA 3 15 rfl (fun w => (q_idxk (i) Tryd.underlying79 ti90 rfl rfl (by first | omega | rfl) (Rd.shp hr.1) (by first | omega | (simp; done) | (simp; omega) | (rw [List.length_map]; assumption) | assumption | rfl | (simp [*]; done) | (simp [*]; omega)))) fun a hA => ?_
          refine r0 hA 4 31 rfl hS (fun w hH => (q_loadRs Tryd.underlying90 rfl ti90 rfl (hH.rd hr.1) (by omega) _ hE39)) fun a hA => ?_
          refine a1n hA 5 63 rfl (lo_call fn49 rfl (bytesOf_any (hg.mono0 hH) _ (by first | exact hkey | exact hnn | exact hDn | exact hn2 | (first | assumption | (rw [List.length_map]; assumption) | rfl | exact sha_length _ | (simp; done) | (simp [*]; done) | omega)) e (HdOk.mv hH he))) ?_
          rintro _ w ⟨v_t120, N_t120, l_t120, b_t120, rfl, hO_t120, hl_t120, hC⟩
          replace hH := HS.call0 hH hC
          clear hC
          obtain ⟨D0, hD0⟩ : ∃ D, D = decO key l_t120 := ⟨_, rfl⟩
          obtain ⟨R, hRR⟩ : ∃ R, R = hearD s n h x did l_t120 D0 := ⟨_, rfl⟩
          intro a hA
          refine p0 hA 6 127 rfl (fun w => (q_move rfl)) fun a hA => ?_
          refine p0 hA 7 255 rfl (fun w => (q_extract rfl rfl)) fun a hA => ?_
          refine p0 hA 8 511 rfl (fun w => (q_extract rfl rfl)) fun a hA => ?_
          refine hA.spl (fun hs122 hA => ?_) (fun hs122 hA => ?_)
          ·skip
           refine p0 hA 9 1023 rfl (fun w => (q_assign rfl)) fun a hA => ?_
           refine p0 hA 10 2047 rfl (fun w => (q_assign rfl)) fun a hA => ?_
           refine a_end (by kernel_rfl) ?_ _
           refine hK125 _ _ ?_
           clear hK125
           refine wp_seq_k fun K126 hK126 => ?_
           refine wp_seq_k fun K127 hK127 => ?_
           refine wp_region_lit ?_
           refine mv hA fun a hA => ?_
           refine sq hA (q_not rfl) rfl fun a hA => ?_
           refine wpList_nil ?_
           refine hK127 _ _ ?_
           clear hK127
           refine cond_f hA rfl ?_
           refine wp_skip ?_
           refine hK126 _ _ ?_
           clear hK126
           refine wp_seq_k fun K128 hK128 => ?_
           refine wp_region_lit ?_
           refine mv hA fun a hA => ?_
           refine sl hA (lo_bs (f := B8) (e := 5) ([]) hH rfl rfl (fun w => by kernel_rfl)) rfl ?_
           clear hH; rintro v_t127 w ⟨N_t127, hO_t127, hH⟩ a hA
           refine mv hA fun a hA => ?_
           refine sl hA (lo_appm hH Tryd.underlying22 Tryd.underlying22 (.inl rfl) ti5 rfl rfl rfl hO_t127 (Rd.src (Own.rd0 hO_t120 hH 1 rfl)) (one_B8 _) (by first | omega | (simp; done) | (simp; omega)) (by first | omega | (simp; done) | (simp; omega))) rfl ?_
           clear hH; rintro v_t129 w ⟨N_t129, hO_t129, hH⟩ a hA
           replace hH := hH.pick [3, 0, 1, 2, 4, 5] (Hs' := [_, _, _, _, _, _]) rfl
           refine sl hA (lo_call fn48 rfl (hear_r (hg.mono0 hH) key hkey s hsd n h hR b_w x did N_w hW_w (hg.ng NG.nil hH) _ _ (Own.rdM hO_t129 (Ns1 := [_]) hH 0 rfl) (by first | omega | (simp; done) | (simp; omega)) D0 hD0 hRR (HS.handed (Ns1 := [_]) hH))) rfl ?_
           rintro _ w ⟨v_t130, N_t130, N_w, rfl, hO_t130, hl_t130, hW_w, hC⟩ a hA
           replace hH := HS.call (Ns1 := [_]) hH hC
           clear hC
           refine mv hA fun a hA => ?_
           refine sq hA (q_extract rfl rfl) rfl fun a hA => ?_
           refine sq hA (q_extract rfl rfl) rfl fun a hA => ?_
           refine asg hA fun a hA => ?_
           refine asg hA fun a hA => ?_
           refine wpList_nil ?_
           refine hK128 _ _ ?_
           clear hK128
           refine wp_seq_k fun K129 hK129 => ?_
           refine wp_region_lit ?_
           refine mv hA fun a hA => ?_
           refine sl hA (lo_bs (f := B8) (e := 5) ([]) hH rfl rfl (fun w => by kernel_rfl)) rfl ?_
           clear hH; rintro v_t135 w ⟨N_t135, hO_t135, hH⟩ a hA
           refine mv hA fun a hA => ?_
           refine sl hA (lo_appm hH Tryd.underlying22 Tryd.underlying22 (.inl rfl) ti5 rfl rfl rfl hO_t135 (Rd.src (Own.rd0 hO_t120 hH 4 rfl)) (one_B8 _) (by first | omega | (simp; done) | (simp; omega)) (by first | omega | (simp; done) | (simp; omega))) rfl ?_
           clear hH; rintro v_t137 w ⟨N_t137, hO_t137, hH⟩ a hA
           replace hH := hH.pick [6, 0, 1, 2, 3, 4, 5, 7] (Hs' := [_, _, _, _, _, _, _, _]) rfl
           refine sl hA (lo_call fn48 rfl (hear_r (hg.mono0 hH) key hkey s hsd n h hR b_v x did N_v hW_v (hg.ng NG.nil hH) _ _ (Own.rdM hO_t137 (Ns1 := [_]) hH 0 rfl) (by first | omega | (simp; done) | (simp; omega)) D0 hD0 hRR (HS.handed (Ns1 := [_]) hH))) rfl ?_
           rintro _ w ⟨v_t138, N_t138, N_v, rfl, hO_t138, hl_t138, hW_v, hC⟩ a hA
           replace hH := HS.call (Ns1 := [_]) hH hC
           clear hC
           refine mv hA fun a hA => ?_
           refine sq hA (q_extract rfl rfl) rfl fun a hA => ?_
           refine sq hA (q_extract rfl rfl) rfl fun a hA => ?_
           refine asg hA fun a hA => ?_
           refine asg hA fun a hA => ?_
           refine wpList_nil ?_
           refine hK129 _ _ ?_
           clear hK129
           refine wp_seq_k fun K130 hK130 => ?_
           refine wp_region_lit ?_
           refine mv hA fun a hA => ?_
           refine mv hA fun a hA => ?_
           refine sq hA (q_neqI rfl rfl) rfl fun a hA => ?_
           replace hA := hA.decF (by exact fun h => h rfl)
           refine mv hA fun a hA => ?_
           refine gq hA rfl rfl (q_move rfl) rfl fun a hA => ?_
           refine gq hA rfl rfl (q_move rfl) rfl fun a hA => ?_
           refine gl hA rfl rfl (lo_call fn16 rfl (same_any _ _ _ _ (Own.rd0 hO_t130 hH 4 rfl) (Own.rd0 hO_t138 hH 1 rfl) (by first | omega | (simp; done) | (simp; omega)) (by first | omega | (simp; done) | (simp; omega)))) rfl ?_
           rintro _ w ⟨rfl, hC⟩ a hA
           replace hH := HS.call0 hH hC
           clear hC
           replace hA := hA.decT (by rfl)
           refine gq hA rfl rfl (q_not rfl) rfl fun a hA => ?_
           refine sq hA (q_pick_f rfl rfl) rfl fun a hA => ?_
           refine wpList_nil ?_
           refine hK130 _ _ ?_
           clear hK130
           refine cond_f hA rfl ?_
           refine wp_skip ?_
           refine block_normal ?_
           refine hK78 _ _ ?_
           clear hK78
           refine wp_region_lit ?_
           refine mv hA fun a hA => ?_
           refine sq hA (q_addI (n := 1) rfl rfl (by omega)) rfl fun a hA => ?_
           refine asg hA fun a hA => ?_
           refine wpList_nil ?_
           replace hH := hH.pick [7, 3, 0, 8, 1, 2, 4, 5, 6] (Hs' := [_, _, _, _, _, _, _, _, _]) rfl
           replace hH := hH.pick [0, 1, 2, 3] (Hs' := [_, _, _, _]) rfl
           exact ⟨_, by omega, i + 1, R.2.1, R.2.2, N_w, N_v, hA.sub ⟨rfl, rfl, rfl, rfl, rfl, rfl, rfl, rfl, rfl, trivial⟩, hH, by omega, by exact hW_w, by exact hW_v, rfl⟩
          ·skip
           refine p0 hA 9 1023 rfl (fun w => (q_assign rfl)) fun a hA => ?_
           refine p0 hA 10 2047 rfl (fun w => (q_assign rfl)) fun a hA => ?_
           refine a_end (by kernel_rfl) ?_ _
           refine hK125 _ _ ?_
           clear hK125
           refine wp_seq_k fun K131 hK131 => ?_
           refine wp_seq_k fun K132 hK132 => ?_
           refine wp_region_lit ?_
           refine mv hA fun a hA => ?_
           refine sq hA (q_not rfl) rfl fun a hA => ?_
           refine wpList_nil ?_
           refine hK132 _ _ ?_
           clear hK132
           refine cond_t hA rfl ?_
           refine wp_exit ?_
           refine then_exit ?_
           refine exit_here ?_
           refine hK78 _ _ ?_
           clear hK78
           refine wp_region_lit ?_
           refine mv hA fun a hA => ?_
           refine sq hA (q_addI (n := 1) rfl rfl (by omega)) rfl fun a hA => ?_
           refine asg hA fun a hA => ?_
           refine wpList_nil ?_
           replace hH := hH.pick [1, 2, 3, 4, 0] (Hs' := [_, _, _, _, _]) rfl
           replace hH := hH.pick [0, 1, 2, 3] (Hs' := [_, _, _, _]) rfl
           exact ⟨_, by omega, i + 1, x, did, N_w, N_v, hA.sub ⟨rfl, rfl, rfl, rfl, rfl, rfl, rfl, rfl, rfl, trivial⟩, hH, by omega, by exact hW_w, by exact hW_v, rfl⟩
         ·skip
          refine wpList_nil ?_
          refine hK124 _ _ ?_
          clear hK124
          refine cond_f hA rfl ?_
          refine wp_skip ?_
          refine block_normal ?_
          refine hK78 _ _ ?_
          clear hK78
          refine wp_region_lit ?_
          refine mv hA fun a hA => ?_
          refine sq hA (q_addI (n := 1) rfl rfl (by omega)) rfl fun a hA => ?_
          refine asg hA fun a hA => ?_
          refine wpList_nil ?_
          exact ⟨_, by omega, i + 1, x, did, N_w, N_v, hA.sub ⟨rfl, rfl, rfl, rfl, rfl, rfl, rfl, rfl, rfl, trivial⟩, hH, by omega, by exact hW_w, by exact hW_v, rfl⟩
       ·skip
        refine mv hA fun a hA => ?_
        refine gs hA rfl rfl rfl rfl fun a hA => ?_
        refine gs hA rfl rfl rfl rfl fun a hA => ?_
        refine gs hA rfl rfl rfl rfl fun a hA => ?_
        refine gs hA rfl rfl rfl rfl fun a hA => ?_
        refine gs hA rfl rfl rfl rfl fun a hA => ?_
        refine gs hA rfl rfl rfl rfl fun a hA => ?_
        refine sq hA (q_pick_f rfl rfl) rfl fun a hA => ?_
        refine wpList_nil ?_
        refine hK80 _ _ ?_
        clear hK80
        refine cond_f hA rfl ?_
        refine wp_skip ?_
        refine hK79 _ _ ?_
        clear hK79
        refine wp_seq_k fun K133 hK133 => ?_
        refine wp_region_lit ?_
        refine mv hA fun a hA => ?_
        refine mv hA fun a hA => ?_
        refine sq hA (q_len Tryd.underlying79 rfl (Rd.shp hr.1)) rfl fun a hA => ?_
        refine sq hA (q_lssI rfl rfl) rfl fun a hA => ?_
        refine hA.spl (fun hs113 hA => ?_) (fun hs113 hA => ?_)
        ·skip
         obtain ⟨e, hem, hE39, hE37, hu, hx, hn, hb⟩ := hr.get (i := i) (by omega)
         have he : HdOk [] w0 e := ⟨hu, hx, hn, hb⟩
         refine wpList_nil ?_
         refine hK133 _ _ ?_
         clear hK133
         refine cond_t hA rfl ?_
         refine wp_seq_k fun K134 hK134 => ?_
         refine any_go mixed (fun j => !(Nat.beq j 5)) hH ?_
         clear hH; intro w hH
         have hS := hH
         refine any_l 11 ?_
         refine r0 hA 0 1 rfl hS (fun w hH => (q_loadW hH 0 rfl Tryd.underlying24 rfl ti24 rfl (by first | omega | (simp; done) | (simp; omega) | (rw [List.length_map]; assumption) | assumption | rfl | (simp [*]; done) | (simp [*]; omega)))) fun a hA => ?_
         refine p0 hA 1 3 rfl (fun w => (q_move rfl)) fun a hA => ?_
         refine p0 hA 2 7 rfl (fun w => (q_move rfl)) fun a hA => ?_
         refine p0 hA 3 15 rfl (fun w => (q_idxk (i) Tryd.underlying79 ti90 rfl rfl (by first | omega | rfl) (Rd.shp hr.1) (by first | omega | (simp; done) | (simp; omega) | (rw [List.length_map]; assumption) | assumption | rfl | (simp [*]; done) | (simp [*]; omega)))) fun a hA => ?_
         refine r0 hA 4 31 rfl hS (fun w hH => (q_loadRs Tryd.underlying90 rfl ti90 rfl (hH.rd hr.1) (by omega) _ hE39)) fun a hA => ?_
         refine a1n hA 5 63 rfl (lo_call fn49 rfl (bytesOf_any (hg.mono0 hH) _ (by first | exact hkey | exact hnn | exact hDn | exact hn2 | (first | assumption | (rw [List.length_map]; assumption) | rfl | exact sha_length _ | (simp; done) | (simp [*]; done) | omega)) e (HdOk.mv hH he))) ?_
         rintro _ w ⟨v_t120, N_t120, l_t120, b_t120, rfl, hO_t120, hl_t120, hC⟩
         replace hH := HS.call0 hH hC
         clear hC
         obtain ⟨D0, hD0⟩ : ∃ D, D = decO key l_t120 := ⟨_, rfl⟩
         obtain ⟨R, hRR⟩ : ∃ R, R = hearD s n h x did l_t120 D0 := ⟨_, rfl⟩
         intro a hA
         refine p0 hA 6 127 rfl (fun w => (q_move rfl)) fun a hA => ?_
         refine p0 hA 7 255 rfl (fun w => (q_extract rfl rfl)) fun a hA => ?_
         refine p0 hA 8 511 rfl (fun w => (q_extract rfl rfl)) fun a hA => ?_
         refine hA.spl (fun hs122 hA => ?_) (fun hs122 hA => ?_)
         ·skip
          refine p0 hA 9 1023 rfl (fun w => (q_assign rfl)) fun a hA => ?_
          refine p0 hA 10 2047 rfl (fun w => (q_assign rfl)) fun a hA => ?_
          refine a_end (by kernel_rfl) ?_ _
          refine hK134 _ _ ?_
          clear hK134
          refine wp_seq_k fun K135 hK135 => ?_
          refine wp_seq_k fun K136 hK136 => ?_
          refine wp_region_lit ?_
          refine mv hA fun a hA => ?_
          refine sq hA (q_not rfl) rfl fun a hA => ?_
          refine wpList_nil ?_
          refine hK136 _ _ ?_
          clear hK136
          refine cond_f hA rfl ?_
          refine wp_skip ?_
          refine hK135 _ _ ?_
          clear hK135
          refine wp_seq_k fun K137 hK137 => ?_
          refine wp_region_lit ?_
          refine mv hA fun a hA => ?_
          refine sl hA (lo_bs (f := B8) (e := 5) ([]) hH rfl rfl (fun w => by kernel_rfl)) rfl ?_
          clear hH; rintro v_t127 w ⟨N_t127, hO_t127, hH⟩ a hA
          refine mv hA fun a hA => ?_
          refine sl hA (lo_appm hH Tryd.underlying22 Tryd.underlying22 (.inl rfl) ti5 rfl rfl rfl hO_t127 (Rd.src (Own.rd0 hO_t120 hH 1 rfl)) (one_B8 _) (by first | omega | (simp; done) | (simp; omega)) (by first | omega | (simp; done) | (simp; omega))) rfl ?_
          clear hH; rintro v_t129 w ⟨N_t129, hO_t129, hH⟩ a hA
          replace hH := hH.pick [3, 0, 1, 2, 4, 5] (Hs' := [_, _, _, _, _, _]) rfl
          refine sl hA (lo_call fn48 rfl (hear_r (hg.mono0 hH) key hkey s hsd n h hR b_w x did N_w hW_w (hg.ng NG.nil hH) _ _ (Own.rdM hO_t129 (Ns1 := [_]) hH 0 rfl) (by first | omega | (simp; done) | (simp; omega)) D0 hD0 hRR (HS.handed (Ns1 := [_]) hH))) rfl ?_
          rintro _ w ⟨v_t130, N_t130, N_w, rfl, hO_t130, hl_t130, hW_w, hC⟩ a hA
          replace hH := HS.call (Ns1 := [_]) hH hC
          clear hC
          refine mv hA fun a hA => ?_
          refine sq hA (q_extract rfl rfl) rfl fun a hA => ?_
          refine sq hA (q_extract rfl rfl) rfl fun a hA => ?_
          refine asg hA fun a hA => ?_
          refine asg hA fun a hA => ?_
          refine wpList_nil ?_
          refine hK137 _ _ ?_
          clear hK137
          refine wp_seq_k fun K138 hK138 => ?_
          refine wp_region_lit ?_
          refine mv hA fun a hA => ?_
          refine sl hA (lo_bs (f := B8) (e := 5) ([]) hH rfl rfl (fun w => by kernel_rfl)) rfl ?_
          clear hH; rintro v_t135 w ⟨N_t135, hO_t135, hH⟩ a hA
          refine mv hA fun a hA => ?_
          refine sl hA (lo_appm hH Tryd.underlying22 Tryd.underlying22 (.inl rfl) ti5 rfl rfl rfl hO_t135 (Rd.src (Own.rd0 hO_t120 hH 4 rfl)) (one_B8 _) (by first | omega | (simp; done) | (simp; omega)) (by first | omega | (simp; done) | (simp; omega))) rfl ?_
          clear hH; rintro v_t137 w ⟨N_t137, hO_t137, hH⟩ a hA
          replace hH := hH.pick [6, 0, 1, 2, 3, 4, 5, 7] (Hs' := [_, _, _, _, _, _, _, _]) rfl
          refine sl hA (lo_call fn48 rfl (hear_r (hg.mono0 hH) key hkey s hsd n h hR b_v x did N_v hW_v (hg.ng NG.nil hH) _ _ (Own.rdM hO_t137 (Ns1 := [_]) hH 0 rfl) (by first | omega | (simp; done) | (simp; omega)) D0 hD0 hRR (HS.handed (Ns1 := [_]) hH))) rfl ?_
          rintro _ w ⟨v_t138, N_t138, N_v, rfl, hO_t138, hl_t138, hW_v, hC⟩ a hA
          replace hH := HS.call (Ns1 := [_]) hH hC
          clear hC
          refine mv hA fun a hA => ?_
          refine sq hA (q_extract rfl rfl) rfl fun a hA => ?_
          refine sq hA (q_extract rfl rfl) rfl fun a hA => ?_
          refine asg hA fun a hA => ?_
          refine asg hA fun a hA => ?_
          refine wpList_nil ?_
          refine hK138 _ _ ?_
          clear hK138
          refine wp_seq_k fun K139 hK139 => ?_
          refine wp_region_lit ?_
          refine mv hA fun a hA => ?_
          refine mv hA fun a hA => ?_
          refine sq hA (q_neqI rfl rfl) rfl fun a hA => ?_
          replace hA := hA.decF (by exact fun h => h rfl)
          refine mv hA fun a hA => ?_
          refine gq hA rfl rfl (q_move rfl) rfl fun a hA => ?_
          refine gq hA rfl rfl (q_move rfl) rfl fun a hA => ?_
          refine gl hA rfl rfl (lo_call fn16 rfl (same_any _ _ _ _ (Own.rd0 hO_t130 hH 4 rfl) (Own.rd0 hO_t138 hH 1 rfl) (by first | omega | (simp; done) | (simp; omega)) (by first | omega | (simp; done) | (simp; omega)))) rfl ?_
          rintro _ w ⟨rfl, hC⟩ a hA
          replace hH := HS.call0 hH hC
          clear hC
          replace hA := hA.decT (by rfl)
          refine gq hA rfl rfl (q_not rfl) rfl fun a hA => ?_
          refine sq hA (q_pick_f rfl rfl) rfl fun a hA => ?_
          refine wpList_nil ?_
          refine hK139 _ _ ?_
          clear hK139
          refine cond_f hA rfl ?_
          refine wp_skip ?_
          refine block_normal ?_
          refine hK78 _ _ ?_
          clear hK78
          refine wp_region_lit ?_
          refine mv hA fun a hA => ?_
          refine sq hA (q_addI (n := 1) rfl rfl (by omega)) rfl fun a hA => ?_
          refine asg hA fun a hA => ?_
          refine wpList_nil ?_
          replace hH := hH.pick [7, 3, 0, 8, 1, 2, 4, 5, 6] (Hs' := [_, _, _, _, _, _, _, _, _]) rfl
          replace hH := hH.pick [0, 1, 2, 3] (Hs' := [_, _, _, _]) rfl
          exact ⟨_, by omega, i + 1, R.2.1, R.2.2, N_w, N_v, hA.sub ⟨rfl, rfl, rfl, rfl, rfl, rfl, rfl, rfl, rfl, trivial⟩, hH, by omega, by exact hW_w, by exact hW_v, rfl⟩
         ·skip
          refine p0 hA 9 1023 rfl (fun w => (q_assign rfl)) fun a hA => ?_
          refine p0 hA 10 2047 rfl (fun w => (q_assign rfl)) fun a hA => ?_
          refine a_end (by kernel_rfl) ?_ _
          refine hK134 _ _ ?_
          clear hK134
          refine wp_seq_k fun K140 hK140 => ?_
          refine wp_seq_k fun K141 hK141 => ?_
          refine wp_region_lit ?_
          refine mv hA fun a hA => ?_
          refine sq hA (q_not rfl) rfl fun a hA => ?_
          refine wpList_nil ?_
          refine hK141 _ _ ?_
          clear hK141
          refine cond_t hA rfl ?_
          refine wp_exit ?_
          refine then_exit ?_
          refine exit_here ?_
          refine hK78 _ _ ?_
          clear hK78
          refine wp_region_lit ?_
          refine mv hA fun a hA => ?_
          refine sq hA (q_addI (n := 1) rfl rfl (by omega)) rfl fun a hA => ?_
          refine asg hA fun a hA => ?_
          refine wpList_nil ?_
          replace hH := hH.pick [1, 2, 3, 4, 0] (Hs' := [_, _, _, _, _]) rfl
          replace hH := hH.pick [0, 1, 2, 3] (Hs' := [_, _, _, _]) rfl
          exact ⟨_, by omega, i + 1, x, did, N_w, N_v, hA.sub ⟨rfl, rfl, rfl, rfl, rfl, rfl, rfl, rfl, rfl, trivial⟩, hH, by omega, by exact hW_w, by exact hW_v, rfl⟩
        ·skip
         refine wpList_nil ?_
         refine hK133 _ _ ?_
         clear hK133
         refine cond_f hA rfl ?_
         refine wp_skip ?_
         refine block_normal ?_
         refine hK78 _ _ ?_
         clear hK78
         refine wp_region_lit ?_
         refine mv hA fun a hA => ?_
         refine sq hA (q_addI (n := 1) rfl rfl (by omega)) rfl fun a hA => ?_
         refine asg hA fun a hA => ?_
         refine wpList_nil ?_
         exact ⟨_, by omega, i + 1, x, did, N_w, N_v, hA.sub ⟨rfl, rfl, rfl, rfl, rfl, rfl, rfl, rfl, rfl, trivial⟩, hH, by omega, by exact hW_w, by exact hW_v, rfl⟩
      ·skip
       refine sq hA (q_pick_f rfl rfl) rfl fun a hA => ?_
       refine wpList_nil ?_
       refine hK13 _ _ ?_
       clear hK13
       refine cond_f hA rfl ?_
       refine wp_exit ?_
       refine then_exit ?_
       replace hH := HS.unfold [_, _, _] hNR11 hH
       refine then_exit ?_
       refine exit_here ?_
       refine hK9 _ _ ?_
       clear hK9
       replace hA := hA.s3 14 12 10
       refine wp_seq_k fun K142 hK142 => ?_
       refine wp_region_lit ?_
       refine mv hA fun a hA => ?_
       refine sq hA (q_eqlI (n := 0) rfl rfl) rfl fun a hA => ?_
       replace hA := hA.decT (by first | rfl | omega | assumption | (simp; done) | (simp [*]; done))
       refine mv hA fun a hA => ?_
       refine gq hA rfl rfl (q_move rfl) rfl fun a hA => ?_
       refine gq hA rfl rfl (q_eqlI (n := 0) rfl rfl) rfl fun a hA => ?_
       refine sq hA (q_pick_t rfl rfl) rfl fun a hA => ?_
       replace hA := hA.decT (by first | rfl | omega | assumption | (simp; done) | (simp [*]; done))
       refine mv hA fun a hA => ?_
       refine gl hA rfl rfl (lo_call fn35 rfl (awake22_any (hg.mono0 hH))) rfl ?_
       rintro _ w ⟨rfl, hC⟩ a hA
       replace hH := HS.call0 hH hC
       clear hC
       refine sq hA (q_pick_t rfl rfl) rfl fun a hA => ?_
       refine asg hA fun a hA => ?_
       refine wpList_nil ?_
       refine hK142 _ _ ?_
       clear hK142
       replace hA := hA.s1 10
       refine wp_ret ?_
       refine post_ret hA (res_1 rfl hA rfl) ?_
       replace hH := hH.pick [] (Hs' := []) rfl
       exact ⟨_, rfl, rfl, hH⟩
   ·skip
    refine gq hA rfl rfl (q_not rfl) rfl fun a hA => ?_
    refine sq hA (q_pick_f rfl rfl) rfl fun a hA => ?_
    refine mv hA fun a hA => ?_
    refine gs hA rfl rfl rfl rfl fun a hA => ?_
    refine gs hA rfl rfl rfl rfl fun a hA => ?_
    refine gs hA rfl rfl rfl rfl fun a hA => ?_
    refine sq hA (q_pick_t rfl rfl) rfl fun a hA => ?_
    refine wpList_nil ?_
    refine hK3 _ _ ?_
    clear hK3
    replace hA := hA.s7 41 10 7 6 5 3 4
    refine cond_t hA rfl ?_
    refine wp_seq_k fun K143 hK143 => ?_
    refine wp_region_lit ?_
    refine sl hA (lo_call fn35 rfl (awake22_any (hg.mono0 hH))) rfl ?_
    rintro _ w ⟨rfl, hC⟩ a hA
    replace hH := HS.call0 hH hC
    clear hC
    refine asg hA fun a hA => ?_
    refine wpList_nil ?_
    refine hK143 _ _ ?_
    clear hK143
    replace hA := hA.s6 10 7 6 5 3 4
    refine wp_ret ?_
    refine then_ret ?_
    refine post_ret hA (res_1 rfl hA rfl) ?_
    replace hH := hH.pick [] (Hs' := []) rfl
    exact ⟨_, rfl, rfl, hH⟩

end Go.Proofs.YtnnkgdijaekcfaaDoor
