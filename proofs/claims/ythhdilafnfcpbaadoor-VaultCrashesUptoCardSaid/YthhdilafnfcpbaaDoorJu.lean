/- Layer 12 (vault): the law VaultCrashes. -/
import Derived.Test.YthhdilafnfcpbaaDoorJs
import Derived.Test.YthhdilafnfcpbaaDoorJt
namespace Go.Proofs.YthhdilafnfcpbaaDoor
open Go
set_option linter.unusedVariables false
set_option linter.unusedSimpArgs false
set_option maxRecDepth 100000

set_option maxHeartbeats 4000000 in
theorem vaultCrashes_any {w0 : World} {lv : Nat} (hg : Gl lv w0) (v : Value) (cl : List CallE) (hcr : RdCl [] w0 v cl) (hcn : cl.length ≤ 1048576)(f1 : Int) (hf1 : f1 ≤ 9223372036854775807)(v2 : Value) (ks : List Int) (hks : Rm I [] w0 v2 ks) (hksl : ks.length ≤ 1048576) :
    Calls Tryd.prog 8 #[v, (I f1), v2] w0 (Ret fun r w' => r = .bool true ∧ HS [] w0 w' []) := by
 have hH := HS.start w0
 refine start (n := 167) (E := [(0, _), (1, _), (2, _)]) Tryd.func8 rfl rfl rfl (args_look rfl) ?_
 intro a hA
 refine wp_seq_k fun K1 hK1 => ?_
 refine wp_region_lit ?_
 refine asg hA fun a hA => ?_
 refine wpList_nil ?_
 refine hK1 _ _ ?_
 clear hK1
 refine wp_seq_k fun K2 hK2 => ?_
 refine wp_seq_k fun K3 hK3 => ?_
 refine wp_region_lit ?_
 refine mv hA fun a hA => ?_
 refine sl hA (lo_call fn10 rfl (long12_any _ _ (hH.rdCl hcr) (by first | omega | (simp; done) | (simp; omega)))) rfl ?_
 rintro _ w ⟨b_t17, rfl, hb_t17, hC⟩ a hA
 replace hH := HS.call0 hH hC
 clear hC
 refine hA.spl (fun hs17 hA => ?_) (fun hs17 hA => ?_)
 ·skip
  refine mv hA fun a hA => ?_
  refine gs hA rfl rfl rfl rfl fun a hA => ?_
  refine gs hA rfl rfl rfl rfl fun a hA => ?_
  refine gs hA rfl rfl rfl rfl fun a hA => ?_
  refine sq hA (q_pick_t rfl rfl) rfl fun a hA => ?_
  refine mv hA fun a hA => ?_
  refine gs hA rfl rfl rfl rfl fun a hA => ?_
  refine gs hA rfl rfl rfl rfl fun a hA => ?_
  refine sq hA (q_pick_t rfl rfl) rfl fun a hA => ?_
  refine wpList_nil ?_
  refine hK3 _ _ ?_
  clear hK3
  replace hA := hA.s5 26 6 0 1 2
  refine cond_t hA rfl ?_
  refine wp_seq_k fun K4 hK4 => ?_
  refine wp_region_lit ?_
  refine sl hA (lo_call fn11 rfl (awake12_any (hg.mono0 hH))) rfl ?_
  rintro _ w ⟨rfl, hC⟩ a hA
  replace hH := HS.call0 hH hC
  clear hC
  refine asg hA fun a hA => ?_
  refine wpList_nil ?_
  refine hK4 _ _ ?_
  clear hK4
  replace hA := hA.s4 6 0 1 2
  refine wp_ret ?_
  refine then_ret ?_
  refine post_ret hA (res_1 rfl hA rfl) ?_
  exact ⟨_, rfl, rfl, hH⟩
 ·skip
  obtain ⟨hl40, hl5⟩ := hb_t17 (by simpa using hs17)
  refine mv hA fun a hA => ?_
  refine gq hA rfl rfl (q_move rfl) rfl fun a hA => ?_
  refine gq hA rfl rfl (q_len Tryd.underlying37 rfl (Rd.shp hks)) rfl fun a hA => ?_
  refine gq hA rfl rfl (q_gtrI (n := 10) rfl rfl) rfl fun a hA => ?_
  refine hA.spl (fun hs21 hA => ?_) (fun hs21 hA => ?_)
  ·skip
   refine sq hA (q_pick_f rfl rfl) rfl fun a hA => ?_
   refine mv hA fun a hA => ?_
   refine gs hA rfl rfl rfl rfl fun a hA => ?_
   refine gs hA rfl rfl rfl rfl fun a hA => ?_
   refine sq hA (q_pick_t rfl rfl) rfl fun a hA => ?_
   refine wpList_nil ?_
   refine hK3 _ _ ?_
   clear hK3
   replace hA := hA.s5 26 6 0 1 2
   refine cond_t hA rfl ?_
   refine wp_seq_k fun K5 hK5 => ?_
   refine wp_region_lit ?_
   refine sl hA (lo_call fn11 rfl (awake12_any (hg.mono0 hH))) rfl ?_
   rintro _ w ⟨rfl, hC⟩ a hA
   replace hH := HS.call0 hH hC
   clear hC
   refine asg hA fun a hA => ?_
   refine wpList_nil ?_
   refine hK5 _ _ ?_
   clear hK5
   replace hA := hA.s4 6 0 1 2
   refine wp_ret ?_
   refine then_ret ?_
   refine post_ret hA (res_1 rfl hA rfl) ?_
   exact ⟨_, rfl, rfl, hH⟩
  ·skip
   refine sq hA (q_pick_f rfl rfl) rfl fun a hA => ?_
   refine mv hA fun a hA => ?_
   refine gq hA rfl rfl (q_move rfl) rfl fun a hA => ?_
   refine gq hA rfl rfl (q_lssI (n := 0) rfl rfl) rfl fun a hA => ?_
   refine hA.spl (fun hs25 hA => ?_) (fun hs25 hA => ?_)
   ·skip
    refine sq hA (q_pick_f rfl rfl) rfl fun a hA => ?_
    refine wpList_nil ?_
    refine hK3 _ _ ?_
    clear hK3
    replace hA := hA.s5 26 6 0 1 2
    refine cond_t hA rfl ?_
    refine wp_seq_k fun K6 hK6 => ?_
    refine wp_region_lit ?_
    refine sl hA (lo_call fn11 rfl (awake12_any (hg.mono0 hH))) rfl ?_
    rintro _ w ⟨rfl, hC⟩ a hA
    replace hH := HS.call0 hH hC
    clear hC
    refine asg hA fun a hA => ?_
    refine wpList_nil ?_
    refine hK6 _ _ ?_
    clear hK6
    replace hA := hA.s4 6 0 1 2
    refine wp_ret ?_
    refine then_ret ?_
    refine post_ret hA (res_1 rfl hA rfl) ?_
    exact ⟨_, rfl, rfl, hH⟩
   ·skip
    refine sq hA (q_pick_f rfl rfl) rfl fun a hA => ?_
    refine wpList_nil ?_
    refine hK3 _ _ ?_
    clear hK3
    replace hA := hA.s5 26 6 0 1 2
    refine cond_f hA rfl ?_
    refine wp_skip ?_
    refine hK2 _ _ ?_
    clear hK2
    replace hA := hA.s4 6 0 1 2
    refine wp_seq_k fun K7 hK7 => ?_
    refine wp_region_lit ?_
    refine sl hA (lo_call fn12 rfl newt_tm) rfl ?_
    rintro _ w ⟨b_t, N_t, rfl, hT, hC⟩ a hA
    replace hH := HS.call0 hH hC
    clear hC
    refine asg hA fun a hA => ?_
    refine wpList_nil ?_
    refine hK7 _ _ ?_
    clear hK7
    replace hA := hA.s5 7 6 0 1 2
    refine wp_seq_k fun K8 hK8 => ?_
    refine wp_region_lit ?_
    refine mv hA fun a hA => ?_
    refine sl hA (lo_call fn13 rfl (open_i (hg.mono0 hH) b_t newT N_t hT newV Inv_new (by decide) (fun i => Nat.zero_le _) (hg.ng NG.nil hH) (HS.handed (Ns1 := [_]) hH))) rfl ?_
    rintro _ w ⟨b_v, N_t, N_v, rfl, hT, hV_v, hC⟩ a hA
    replace hH := HS.call (Ns1 := [_]) hH hC
    clear hC
    refine mv hA fun a hA => ?_
    refine sq hA (q_extract rfl rfl) rfl fun a hA => ?_
    refine sq hA (q_extract rfl rfl) rfl fun a hA => ?_
    refine asg hA fun a hA => ?_
    refine asg hA fun a hA => ?_
    refine wpList_nil ?_
    refine hK8 _ _ ?_
    clear hK8
    replace hA := hA.s7 9 8 7 6 0 1 2
    refine wp_seq_k fun K9 hK9 => ?_
    refine wp_region_lit ?_
    refine sq hA (q_build (v := (.agg ([(I 0), (.slice none 0 0), (.slice none 0 0)]).toArray)) (vs := []) rfl (fun w => by kernel_rfl)) rfl fun a hA => ?_
    refine sl hA (lo_boxA hH rfl) rfl ?_
    clear hH; rintro _ w ⟨b_t35, rfl, hH⟩ a hA
    obtain ⟨b_m, hbm⟩ : ∃ b, b = b_t35 := ⟨_, rfl⟩
    subst hbm
    replace hH : HS _ _ _ ([(b_m, Obj.cells (mC 0 nilV nilV).toArray 35 (0, 0))] :: _) := hH
    refine asg hA fun a hA => ?_
    refine wpList_nil ?_
    refine hK9 _ _ ?_
    clear hK9
    replace hA := hA.s8 10 9 8 7 6 0 1 2
    refine wp_seq_k fun K10 hK10 => ?_
    refine wp_seq_k fun K11 hK11 => ?_
    refine wp_region_lit ?_
    refine mv hA fun a hA => ?_
    refine sq hA (q_neqI (n := 0) rfl rfl) rfl fun a hA => ?_
    replace hA := hA.decF (by exact fun h => h rfl)
    refine wpList_nil ?_
    refine hK11 _ _ ?_
    clear hK11
    replace hA := hA.s9 37 10 9 8 7 6 0 1 2
    refine cond_f hA rfl ?_
    refine wp_skip ?_
    refine hK10 _ _ ?_
    clear hK10
    replace hA := hA.s8 10 9 8 7 6 0 1 2
    refine wp_seq_k fun K12 hK12 => ?_
    refine wp_region_lit ?_
    refine mv hA fun a hA => ?_
    refine mv hA fun a hA => ?_
    replace hH := hH.pick [1, 0, 2] (Hs' := [_, _, _]) rfl
    refine sl hA (lo_call fn29 rfl (fuse_tm b_t newT N_t hT f1 (HS.handed (Ns1 := [_]) hH))) rfl ?_
    rintro _ w ⟨N_t, hT, hC⟩ a hA
    replace hH := HS.call (Ns1 := [_]) hH hC
    clear hC
    rw [if_neg (by omega)] at hT
    refine wpList_nil ?_
    refine hK12 _ _ ?_
    clear hK12
    replace hA := hA.s7 10 9 8 7 6 0 2
    refine wp_seq_k fun K13 hK13 => ?_
    refine wp_region_lit ?_
    refine mv hA fun a hA => ?_
    refine sq hA (q_nilCheck rfl) rfl fun a hA => ?_
    refine sq hA (q_loadW hH 1 rfl Tryd.underlying35 rfl ti35 rfl (by first | omega | (simp; done) | (simp; omega) | (rw [List.length_map]; assumption) | assumption | rfl | (simp [*]; done) | (simp [*]; omega))) rfl fun a hA => ?_
    refine sl hA (lo_allocA hH ti35) rfl ?_
    clear hH; rintro _ w ⟨b_t11, rfl, hH⟩ a hA
    refine s0 hA (lo_storeAm hH ti35 rfl rfl (rfl) (rfl) (ones_cons rfl (ones_cons rfl (ones_cons rfl ones_nil)))) ?_
    clear hH; rintro _ w hH
    refine wpList_nil ?_
    refine hK13 _ _ ?_
    clear hK13
    replace hA := hA.s8 11 10 9 8 7 6 0 2
    refine wp_seq_k fun K14 hK14 => ?_
    refine wp_seq_k fun K15 hK15 => ?_
    refine wp_region_lit ?_
    refine asg hA fun a hA => ?_
    refine wpList_nil ?_
    refine hK15 _ _ ?_
    clear hK15
    refine wp_block ?_
    replace hH := hH.nilFront
    replace hH := hH.nilFront
    replace hH := hH.nilFront
    replace hH := hH.pick [4, 6, 5, 3, 0, 1, 2] (Hs' := [_, _, _, _, _, _, _]) rfl
    refine wp_loop_ghost (fun gm a w => ∃ i : Nat, ∃ b_m : Nat, ∃ g : Nat, ∃ x : Value, ∃ rr : Value, ∃ text : Bs, ∃ recs : List Bs, ∃ gu : Nat, ∃ xu : Value, ∃ ru : Value, ∃ T : Tp, ∃ V : Vs, ∃ N_t : Hl, ∃ N_v : Hl, ∃ N_mo : Hl, ∃ N_md : Hl, ∃ N_uo : Hl, At 167 [(12, I i), (11, (.pointer (some ⟨b_t11, 0, none⟩))), (10, (.pointer (some ⟨b_m, 0, none⟩))), (9, (I 0)), (8, (.pointer (some ⟨b_v, 0, none⟩))), (7, (.pointer (some ⟨b_t, 0, none⟩))), (6, (.bool false)), (0, v), (2, v2)] a ∧ HS [] w0 w ([N_t, N_v, [(b_m, Obj.cells (mC g x rr).toArray 35 (0, 0))], [(b_t11, Obj.cells (mC gu xu ru).toArray 35 (0, 0))], N_mo, N_md, N_uo]) ∧ (i ≤ cl.length) ∧ (Wk T V i) ∧ (TM 5 76 66 b_t T N_t) ∧ (VM 5 32 68 b_v b_t V N_v) ∧ (RdH N_md x text) ∧ (RowsH 32 rr recs N_mo N_md) ∧ (recs.length ≤ i) ∧ (VOk ⟨g, text, recs, false⟩) ∧ (Dn 32 T V g text recs gu xu ru N_uo N_md) ∧ gm = cl.length - i) (cl.length - (0)) ⟨0, b_m, 0, nilV, nilV, [], [], 0, nilV, nilV, _, newV, N_t, N_v, [], [], [], hA.sub ⟨rfl, rfl, rfl, rfl, rfl, rfl, rfl, rfl, rfl, trivial⟩, hH, by omega, by exact Wk.new hf1, by exact hT, by exact hV_v, by exact fun M w _ => By.nilV, by exact RowsH.nil _, by exact Nat.zero_le _, by exact Inv_new.vok, by exact Dn.live rfl rfl, rfl⟩ ?_
    clear hA hH
    rintro gm a w ⟨i, b_m, g, x, rr, text, recs, gu, xu, ru, T, V, N_t, N_v, N_mo, N_md, N_uo, hA, hH, hi, hW, hT, hV_v, hX_m, hR_m, hn, hM, hD, rfl⟩
    refine wp_seq_k fun K16 hK16 => ?_
    refine wp_seq_k fun K17 hK17 => ?_
    refine wp_region_lit ?_
    refine mv hA fun a hA => ?_
    rcases hd : T.down with _ | _
    ·skip
     obtain ⟨hI, hgi⟩ : Inv T V ∧ V.gen ≤ i := by
       rcases hW.st with h | h
       · exact h
       · rw [hd] at h; cases h.2
     obtain rfl := hD.1 hd
     replace hgi : g ≤ i := hgi
     refine mv hA fun a hA => ?_
     refine sq hA (q_len Tryd.underlying22 rfl (Rd.shp hcr.1)) rfl fun a hA => ?_
     refine sq hA (q_lssI rfl rfl) rfl fun a hA => ?_
     refine hA.spl (fun hs47 hA => ?_) (fun hs47 hA => ?_)
     ·skip
      obtain ⟨e, hem, hei, hE3, hE0, hE1, hE2, he⟩ := hcr.get (i := i) (by omega)
      have he5 := hl5 e hem
      refine mv hA fun a hA => ?_
      refine gq hA rfl rfl (q_move rfl) rfl fun a hA => ?_
      refine gl hA rfl rfl (lo_call fn30 rfl (down_tm b_t T N_t hT (HS.handed (Ns1 := [_]) hH))) rfl ?_
      rintro _ w ⟨N_t, rfl, hT, hC⟩ a hA
      replace hH := HS.call (Ns1 := [_]) hH hC
      clear hC
      rw [hd] at hA
      refine gq hA rfl rfl (q_not rfl) rfl fun a hA => ?_
      refine sq hA (q_pick_t rfl rfl) rfl fun a hA => ?_
      refine wpList_nil ?_
      refine hK17 _ _ ?_
      clear hK17
      refine cond_t hA rfl ?_
      refine wp_skip ?_
      refine hK16 _ _ ?_
      clear hK16
      refine wp_seq_k fun K18 hK18 => ?_
      refine wp_block ?_
      refine wp_seq_k fun K19 hK19 => ?_
      refine wp_region_lit ?_
      refine mv hA fun a hA => ?_
      refine mv hA fun a hA => ?_
      refine sq hA (q_idxk (i) Tryd.underlying22 ti39 rfl rfl (by first | omega | rfl) (Rd.shp hcr.1) (by first | omega | (simp; done) | (simp; omega) | (rw [List.length_map]; assumption) | assumption | rfl | (simp [*]; done) | (simp [*]; omega))) rfl fun a hA => ?_
      refine sq hA (q_loadRs Tryd.underlying39 rfl ti39 rfl (hH.rd hcr.1) (by omega) _ hE3) rfl fun a hA => ?_
      refine sl hA (lo_allocA hH ti39) rfl ?_
      clear hH; rintro _ w ⟨b_t13, rfl, hH⟩ a hA
      refine s0 hA (lo_storeAm hH ti39 rfl rfl (rfl) (rfl) (ones_cons rfl (ones_cons (Rd.one he.1) (ones_cons (Rd.one he.2.1) ones_nil)))) ?_
      clear hH; rintro _ w hH
      refine wpList_nil ?_
      refine hK19 _ _ ?_
      clear hK19
      refine wp_seq_k fun K20 hK20 => ?_
      refine wp_seq_k fun K21 hK21 => ?_
      refine wp_region_lit ?_
      refine sq hA (q_fld 0 Tryd.underlying39 rfl rfl ti3 rfl) rfl fun a hA => ?_
      refine sq hA (q_loadB hH 0 rfl (List.mem_singleton.2 rfl) Tryd.underlying3 rfl rfl rfl) rfl fun a hA => ?_
      refine sq hA (q_neqI (n := 0) rfl rfl) rfl fun a hA => ?_
      refine hA.spl (fun hs61 hA => ?_) (fun hs61 hA => ?_)
      ·skip
       refine mv hA fun a hA => ?_
       refine gq hA rfl rfl (q_fld 0 Tryd.underlying39 rfl rfl ti3 rfl) rfl fun a hA => ?_
       refine gq hA rfl rfl (q_loadB hH 0 rfl (List.mem_singleton.2 rfl) Tryd.underlying3 rfl rfl rfl) rfl fun a hA => ?_
       refine gq hA rfl rfl (q_neqI (n := 1) rfl rfl) rfl fun a hA => ?_
       refine hA.spl (fun hs65 hA => ?_) (fun hs65 hA => ?_)
       ·skip
        refine sq hA (q_pick_t rfl rfl) rfl fun a hA => ?_
        refine wpList_nil ?_
        refine hK21 _ _ ?_
        clear hK21
        refine cond_t hA rfl ?_
        refine wp_exit ?_
        refine then_exit ?_
        refine exit_here ?_
        refine hK18 _ _ ?_
        clear hK18
        refine wp_region_lit ?_
        refine mv hA fun a hA => ?_
        refine sq hA (q_addI (n := 1) rfl rfl (by omega)) rfl fun a hA => ?_
        refine asg hA fun a hA => ?_
        refine wpList_nil ?_
        replace hH := hH.pick [1, 2, 3, 4, 5, 6, 7, 0] (Hs' := [_, _, _, _, _, _, _, _]) rfl
        replace hH := hH.pick [0, 1, 2, 3, 4, 5, 6] (Hs' := [_, _, _, _, _, _, _]) rfl
        exact ⟨_, by omega, i + 1, b_m, g, x, rr, text, recs, gu, xu, ru, T, ⟨g, text, recs, false⟩, N_t, N_v, N_mo, N_md, N_uo, hA.sub ⟨rfl, rfl, rfl, rfl, rfl, rfl, rfl, rfl, rfl, trivial⟩, hH, by omega, by first | exact hW1 | exact hW.mono (Nat.le_succ _), by exact hT, by exact hV_v, by first | exact hXu | exact hX1 | exact hX_m, by first | exact hR_u | exact hR1 | exact (RowsH.nil _).mono (fun p hp => by cases hp) | exact hR_m, by first | omega | (rw [List.length_append, List.length_singleton]; omega) | exact Nat.zero_le _, by first | exact hM | exact hM.snoc (by omega) (by omega) | exact VOk.saved (by omega) (by omega), by first | exact Dn.live hd rfl | exact Dn.live hd1 hV1' | exact Dn.gone hd1 a3 hX1 hR_u (hM.snoc (by omega) (by omega)) a5 | exact Dn.gone hd1 a3 hXu ((RowsH.nil _).mono (fun p hp => by cases hp)) (VOk.saved (by omega) (by omega)) a5, rfl⟩
       ·skip
        refine sq hA (q_pick_t rfl rfl) rfl fun a hA => ?_
        refine wpList_nil ?_
        refine hK21 _ _ ?_
        clear hK21
        refine cond_f hA rfl ?_
        refine wp_skip ?_
        refine hK20 _ _ ?_
        clear hK20
        refine wp_seq_k fun K22 hK22 => ?_
        refine any_go mixed (fun j => !(Nat.beq j 15)) hH ?_
        clear hH; intro w hH
        have hS := hH
        refine any_l 16 ?_
        refine p0 hA 0 1 rfl (fun w => (q_move rfl)) fun a hA => ?_
        refine p0 hA 1 3 rfl (fun w => (q_nilCheck rfl)) fun a hA => ?_
        refine p0 hA 2 7 rfl (fun w => (q_fld 0 Tryd.underlying35 rfl rfl ti3 rfl)) fun a hA => ?_
        refine r0 hA 3 15 rfl hS (fun w hH => (q_loadB hH 3 rfl (List.mem_singleton.2 rfl) Tryd.underlying3 rfl rfl rfl)) fun a hA => ?_
        refine p0 hA 4 31 rfl (fun w => (q_move rfl)) fun a hA => ?_
        refine p0 hA 5 63 rfl (fun w => (q_nilCheck rfl)) fun a hA => ?_
        refine p0 hA 6 127 rfl (fun w => (q_fld 1 Tryd.underlying35 rfl rfl ti32 rfl)) fun a hA => ?_
        refine r0 hA 7 255 rfl hS (fun w hH => (q_loadB hH 3 rfl (List.mem_singleton.2 rfl) Tryd.underlying32 rfl rfl rfl)) fun a hA => ?_
        refine p0 hA 9 767 rfl (fun w => (q_move rfl)) fun a hA => ?_
        refine p0 hA 10 1791 rfl (fun w => (q_nilCheck rfl)) fun a hA => ?_
        refine p0 hA 11 3839 rfl (fun w => (q_fld 2 Tryd.underlying35 rfl rfl ti33 rfl)) fun a hA => ?_
        refine r0 hA 12 7935 rfl hS (fun w hH => (q_loadB hH 3 rfl (List.mem_singleton.2 rfl) Tryd.underlying33 rfl rfl rfl)) fun a hA => ?_
        refine a1 hA 8 8191 rfl (lo_buildSlice (e := 32) (vs := []) (cs := []) (k := 1) (bb := 0) (z := undef) hH rfl rfl (fun w => by kernel_rfl)) ?_
        clear hH; rintro v_t75 w ⟨N_t75, hO_t75, hH⟩
        have hR_t75 : RowsH 32 v_t75 [] N_t75 [] := ⟨[], rfl, hO_t75, fun i hi => absurd hi (Nat.not_lt_zero i)⟩
        clear hO_t75
        replace hH := hH.nilFront
        replace hS := hH.pick [2, 3, 4, 5, 6, 7, 8, 9] (Hs' := [_, _, _, _, _, _, _, _]) rfl
        refine ⟨fun _ _ => hS, ?_⟩
        intro a hA
        replace hH := hH.pick [1, 0, 2, 3, 4, 5, 6, 7, 8, 9] (Hs' := [_, _, _, _, _, _, _, _, _, _]) rfl
        have hx_t80 := hR_t75
        obtain ⟨vs_t80, hvl_t80, hvo_t80, hvr_t80⟩ := hx_t80
        have hx_xt80 := hR_m
        obtain ⟨vs_xt80, hvl_xt80, hvo_xt80, hvr_xt80⟩ := hx_xt80
        refine a1 hA 13 16383 rfl (lo_append hH Tryd.underlying33 Tryd.underlying33 (.inl rfl) ti32 rfl rfl rfl hvo_t80 (Rd.src (Own.rd0 hvo_xt80 hH 7 rfl)) (rows_one hvl_xt80 hvr_xt80 (RO.of hH 8 rfl)) (by first | omega | (simp; done) | (simp; omega)) (by first | omega | (simp; done) | (simp; omega))) ?_
        clear hH; rintro v_t80 w ⟨N_t80, hO_t80, hH⟩
        have hR_t80 := RowsH.copy0 rfl hvl_t80 hO_t80 hvl_xt80 hvr_xt80
        replace hS := hH.pick [2, 3, 4, 5, 6, 7, 8, 9] (Hs' := [_, _, _, _, _, _, _, _]) rfl
        refine ⟨fun _ _ => hS, ?_⟩
        intro a hA
        refine p0 hA 14 32767 rfl (fun w => (q_buildC (css := [_, [x], [v_t80]]) (z := [(I 0), (.slice none 0 0), (.slice none 0 0)]) (BT.mk (pl := [(0, 1), (1, 1), (2, 1)]) (it := Tryd.t35) (by kernel_rfl) Tryd.underlying35 (by kernel_rfl) (by kernel_rfl)) rfl ⟨rfl, ⟨_, rfl, by first | rfl | (simp [Value.cells]; done) | (simp [Value.cells, *]; done), by decide⟩, cells_one (Rd.one (hX_m [] _ (RO.of hH 8 rfl))), ⟨_, rfl, by first | rfl | (simp [Value.cells]; done) | (simp [Value.cells, *]; done), by decide⟩, cells_one (RowsH.one hR_t80), ⟨_, rfl, by first | rfl | (simp [Value.cells]; done) | (simp [Value.cells, *]; done), by decide⟩, trivial⟩)) fun a hA => ?_
        replace hH := hH.pick [6, 0, 1, 2, 3, 4, 5, 7, 8, 9] (Hs' := [_, _, _, _, _, _, _, _, _, _]) rfl
        refine a0n hA 15 65535 rfl (lo_storeAm hH ti35 rfl rfl (rfl) (rfl) (ones_cons rfl (ones_cons (Rd.one (hX_m [] _ (RO.of hH 8 rfl))) (ones_cons (RowsH.one hR_t80) ones_nil)))) ?_
        clear hH; rintro _ w hH
        replace hH : HS _ _ _ ([(b_t11, Obj.cells (mC g x v_t80).toArray 35 (0, 0))] :: _) := hH
        refine a_end (by kernel_rfl) ?_ _
        refine hK22 _ _ ?_
        clear hK22
        refine wp_seq_k fun K23 hK23 => ?_
        refine wp_region_lit ?_
        refine asg hA fun a hA => ?_
        refine wpList_nil ?_
        refine hK23 _ _ ?_
        clear hK23
        refine wp_seq_k fun K24 hK24 => ?_
        refine wp_seq_k fun K25 hK25 => ?_
        refine wp_region_lit ?_
        refine sq hA (q_fld 0 Tryd.underlying39 rfl rfl ti3 rfl) rfl fun a hA => ?_
        refine sq hA (q_loadB hH 3 rfl (List.mem_singleton.2 rfl) Tryd.underlying3 rfl rfl rfl) rfl fun a hA => ?_
        refine sq hA (q_eqlI (n := 0) rfl rfl) rfl fun a hA => ?_
        refine wpList_nil ?_
        refine hK25 _ _ ?_
        clear hK25
        refine cond_d hA rfl (fun hnn => absurd hnn ((by omega))) (fun _ => ?_)
        refine wp_seq_k fun K26 hK26 => ?_
        refine wp_region_lit ?_
        refine mv hA fun a hA => ?_
        refine sq hA (q_fld 1 Tryd.underlying39 rfl rfl ti32 rfl) rfl fun a hA => ?_
        refine sq hA (q_loadB hH 3 rfl (List.mem_singleton.2 rfl) Tryd.underlying32 rfl rfl rfl) rfl fun a hA => ?_
        refine sl hA (lo_call fn18 rfl (lown12_any _ _ (hH.rd he.1) (by first | omega | (simp; done) | (simp; omega)))) rfl ?_
        rintro _ w ⟨v_t96, N_t96, rfl, hO_t96, hC⟩ a hA
        replace hH := HS.call0 hH hC
        clear hC
        replace hH := hH.pick [5, 6, 0, 1, 2, 3, 4, 7, 8, 9, 10] (Hs' := [_, _, _, _, _, _, _, _, _, _, _]) rfl
        refine sl hA (lo_call fn24 rfl (save_vm (hg.mono0 hH) b_v b_t ⟨g, text, recs, false⟩ T N_t N_v hV_v hT (fun _ => hW.rdy.mono (by decide)) hW.vok (Gl.ngs (Ns1 := [_, _]) hg NG.nil hH) _ _ (Own.rdM hO_t96 (Ns1 := [_, _]) hH 0 rfl) (HS.handed (Ns1 := [_, _]) hH))) rfl ?_
        rintro _ w ⟨N_t, N_v, rfl, hT, hV_v, hC⟩ a hA
        replace hH := HS.call (Ns1 := [_, _]) hH hC
        clear hC
        have hW1 := hW.save he5.1 (by omega)
        obtain ⟨T1, hT1⟩ : ∃ z, z = (saveV T ⟨g, text, recs, false⟩ e.b).2.1 := ⟨_, rfl⟩
        obtain ⟨V1, hV1⟩ : ∃ z, z = (saveV T ⟨g, text, recs, false⟩ e.b).2.2 := ⟨_, rfl⟩
        rw [← hT1] at hT hW1
        rw [← hV1] at hV_v hW1
        rcases save_inv hI (b := e.b) (by omega) (by show g < _; omega) with ⟨a1, a2, a3, _, _⟩ | ⟨a1, a2, a3, a4, a5, _⟩
        ·skip
         rw [a1] at hA
         rw [← hT1] at a3
         have hd1 : T1.down = false := a3.dn
         have hV1' := hV1.trans a2
         refine asg hA fun a hA => ?_
         refine wpList_nil ?_
         refine hK26 _ _ ?_
         clear hK26
         refine wp_region_lit ?_
         refine sq hA (q_fld 1 Tryd.underlying39 rfl rfl ti32 rfl) rfl fun a hA => ?_
         refine sq hA (q_loadB hH 6 rfl (List.mem_singleton.2 rfl) Tryd.underlying32 rfl rfl rfl) rfl fun a hA => ?_
         replace hH := hH.pick [3, 0, 1, 2, 4, 5, 6, 7, 8, 9, 10] (Hs' := [_, _, _, _, _, _, _, _, _, _, _]) rfl
         refine sl hA (lo_call fn27 rfl (refsave_any b_t11 g (by omega) x v_t80 _ _ (HS.rdM (Ns1 := [_]) hH he.1) (by omega) (HS.handed (Ns1 := [_]) hH))) rfl ?_
         rintro _ w ⟨x1, N_x1, rfl, hO_x1, hC⟩ a hA
         replace hH := HS.call (Ns1 := [_]) hH hC
         clear hC
         replace hH := hH.pick [1, 10, 0, 2, 3, 4, 5, 6, 7, 8, 9, 11] (Hs' := [_, _, _, _, _, _, _, _, _, _, _, _]) rfl
         replace hH := hH.join
         obtain ⟨D1, hD1⟩ : ∃ D, D = N_x1 ++ N_md := ⟨_, rfl⟩
         rw [← hD1] at hH
         have hsub : ∀ p ∈ N_md, p ∈ D1 := fun p hp => by rw [hD1]; exact List.mem_append_right _ hp
         have hXu : RdH D1 x1 e.b := (Own.rdh hO_x1).mono (fun p hp => by rw [hD1]; exact List.mem_append_left _ hp)
         have hX1 := hX_m.mono hsub
         have hR1 := hR_m.mono hsub
         replace hH := hH.nilFront
         refine wpList_nil ?_
         refine hK24 _ _ ?_
         clear hK24
         replace hA := hA.sub (E' := [(99, _), (98, _), (14, _), (97, _), (96, _), (95, _), (94, _), (93, _), (84, _), (83, _), (82, _), (81, _), (80, _), (75, _), (79, _), (78, _), (77, _), (76, _), (74, _), (73, _), (72, _), (71, _), (70, _), (69, _), (68, _), (67, _), (66, _), (65, _), (64, _), (63, _), (62, _), (61, _), (60, _), (59, _), (13, _), (58, _), (57, _), (56, _), (55, _), (52, _), (51, _), (50, _), (49, _), (48, _), (47, _), (46, _), (45, _), (44, _), (12, _), (11, _), (10, _), (9, _), (8, _), (7, _), (6, _), (0, _), (2, _)]) ⟨rfl, rfl, rfl, rfl, rfl, rfl, rfl, rfl, rfl, rfl, rfl, rfl, rfl, rfl, rfl, rfl, rfl, rfl, rfl, rfl, rfl, rfl, rfl, rfl, rfl, rfl, rfl, rfl, rfl, rfl, rfl, rfl, rfl, rfl, rfl, rfl, rfl, rfl, rfl, rfl, rfl, rfl, rfl, rfl, rfl, rfl, rfl, rfl, rfl, rfl, rfl, rfl, rfl, rfl, rfl, rfl, rfl, trivial⟩
         refine wp_seq_k fun K27 hK27 => ?_
         refine wp_seq_k fun K28 hK28 => ?_
         refine wp_region_lit ?_
         refine mv hA fun a hA => ?_
         refine sq hA (q_eqlI (n := 100) rfl rfl) rfl fun a hA => ?_
         replace hA := hA.decF (by decide)
         refine mv hA fun a hA => ?_
         replace hH := hH.pick [3, 0, 1, 2, 4, 5, 6, 7, 8, 9, 10, 11] (Hs' := [_, _, _, _, _, _, _, _, _, _, _, _]) rfl
         refine sl hA (lo_call fn30 rfl (down_tm b_t T1 N_t hT (HS.handed (Ns1 := [_]) hH))) rfl ?_
         rintro _ w ⟨N_t, rfl, hT, hC⟩ a hA
         replace hH := HS.call (Ns1 := [_]) hH hC
         clear hC
         rw [hd1] at hA
         refine sq hA (q_neqB Tryd.underlying4 rfl rfl) rfl fun a hA => ?_
         replace hA := hA.decF (by exact fun h => h rfl)
         refine mv hA fun a hA => ?_
         refine gq hA rfl rfl (q_move rfl) rfl fun a hA => ?_
         refine gq hA rfl rfl (q_neqI (n := 0) rfl rfl) rfl fun a hA => ?_
         replace hA := hA.decF (by exact fun h => h rfl)
         refine gq hA rfl rfl (q_move rfl) rfl fun a hA => ?_
         refine gs hA rfl rfl rfl rfl fun a hA => ?_
         refine gs hA rfl rfl rfl rfl fun a hA => ?_
         refine gq hA rfl rfl (q_pick_f rfl rfl) rfl fun a hA => ?_
         refine sq hA (q_pick_f rfl rfl) rfl fun a hA => ?_
         refine wpList_nil ?_
         refine hK28 _ _ ?_
         clear hK28
         refine cond_f hA rfl ?_
         refine wp_skip ?_
         refine hK27 _ _ ?_
         clear hK27
         refine wp_seq_k fun K29 hK29 => ?_
         refine wp_region_lit ?_
         refine mv hA fun a hA => ?_
         refine sq hA (q_eqlI (n := 0) rfl rfl) rfl fun a hA => ?_
         replace hA := hA.decT (by rfl)
         refine wpList_nil ?_
         refine hK29 _ _ ?_
         clear hK29
         refine cond_t hA rfl ?_
         refine wp_region_lit ?_
         refine sq hA (q_fld 0 Tryd.underlying35 rfl rfl ti3 rfl) rfl fun a hA => ?_
         refine sq hA (q_loadB hH 3 rfl (List.mem_singleton.2 rfl) Tryd.underlying3 rfl rfl rfl) rfl fun a hA => ?_
         refine sq hA (q_fld 1 Tryd.underlying35 rfl rfl ti32 rfl) rfl fun a hA => ?_
         refine sq hA (q_loadB hH 3 rfl (List.mem_singleton.2 rfl) Tryd.underlying32 rfl rfl rfl) rfl fun a hA => ?_
         refine sq hA (q_fld 2 Tryd.underlying35 rfl rfl ti33 rfl) rfl fun a hA => ?_
         refine sq hA (q_loadB hH 3 rfl (List.mem_singleton.2 rfl) Tryd.underlying33 rfl rfl rfl) rfl fun a hA => ?_
         refine sq hA (q_buildC (css := [_, [x1], _]) (z := [(I 0), (.slice none 0 0), (.slice none 0 0)]) (BT.mk (pl := [(0, 1), (1, 1), (2, 1)]) (it := Tryd.t35) (by kernel_rfl) Tryd.underlying35 (by kernel_rfl) (by kernel_rfl)) rfl ⟨rfl, ⟨_, rfl, by first | rfl | (simp [Value.cells]; done) | (simp [Value.cells, *]; done), by decide⟩, cells_one (Rd.one (hXu [] _ (RO.of hH 2 rfl))), ⟨_, rfl, by first | rfl | (simp [Value.cells]; done) | (simp [Value.cells, *]; done), by decide⟩, rfl, ⟨_, rfl, by first | rfl | (simp [Value.cells]; done) | (simp [Value.cells, *]; done), by decide⟩, trivial⟩) rfl fun a hA => ?_
         refine sl hA (lo_boxA hH rfl) rfl ?_
         clear hH; rintro _ w ⟨b_t123, rfl, hH⟩ a hA
         replace hH : HS _ _ _ ([(b_t123, Obj.cells (mC (g + 1) x1 nilV).toArray 35 (0, 0))] :: _) := hH
         refine asg hA fun a hA => ?_
         refine wpList_nil ?_
         refine block_normal ?_
         refine hK18 _ _ ?_
         clear hK18
         refine wp_region_lit ?_
         refine mv hA fun a hA => ?_
         refine sq hA (q_addI (n := 1) rfl rfl (by omega)) rfl fun a hA => ?_
         refine asg hA fun a hA => ?_
         refine wpList_nil ?_
         replace hH := hH.pick [1, 5, 0, 4, 2, 3, 12, 6, 7, 8, 9, 10, 11] (Hs' := [_, _, _, _, _, _, _, _, _, _, _, _, _]) rfl
         replace hH := hH.pick [0, 1, 2, 3, 4, 5, 6] (Hs' := [_, _, _, _, _, _, _]) rfl
         exact ⟨_, by omega, i + 1, b_t123, g + 1, x1, nilV, e.b, [], g + 1, x1, nilV, T1, V1, N_t, N_v, [], D1, N_uo, hA.sub ⟨rfl, rfl, rfl, rfl, rfl, rfl, rfl, rfl, rfl, trivial⟩, hH, by omega, by first | exact hW1 | exact hW.mono (Nat.le_succ _), by exact hT, by exact hV_v, by first | exact hXu | exact hX1 | exact hX_m, by first | exact hR_u | exact hR1 | exact (RowsH.nil _).mono (fun p hp => by cases hp) | exact hR_m, by first | omega | (rw [List.length_append, List.length_singleton]; omega) | exact Nat.zero_le _, by first | exact hM | exact hM.snoc (by omega) (by omega) | exact VOk.saved (by omega) (by omega), by first | exact Dn.live hd rfl | exact Dn.live hd1 hV1' | exact Dn.gone hd1 a3 hX1 hR_u (hM.snoc (by omega) (by omega)) a5 | exact Dn.gone hd1 a3 hXu ((RowsH.nil _).mono (fun p hp => by cases hp)) (VOk.saved (by omega) (by omega)) a5, rfl⟩
        ·skip
         rw [a1] at hA
         rw [← hT1] at a2 a4 a5
         rw [← hV1] at a3
         have hd1 := a2
         refine asg hA fun a hA => ?_
         refine wpList_nil ?_
         refine hK26 _ _ ?_
         clear hK26
         refine wp_region_lit ?_
         refine sq hA (q_fld 1 Tryd.underlying39 rfl rfl ti32 rfl) rfl fun a hA => ?_
         refine sq hA (q_loadB hH 6 rfl (List.mem_singleton.2 rfl) Tryd.underlying32 rfl rfl rfl) rfl fun a hA => ?_
         replace hH := hH.pick [3, 0, 1, 2, 4, 5, 6, 7, 8, 9, 10] (Hs' := [_, _, _, _, _, _, _, _, _, _, _]) rfl
         refine sl hA (lo_call fn27 rfl (refsave_any b_t11 g (by omega) x v_t80 _ _ (HS.rdM (Ns1 := [_]) hH he.1) (by omega) (HS.handed (Ns1 := [_]) hH))) rfl ?_
         rintro _ w ⟨x1, N_x1, rfl, hO_x1, hC⟩ a hA
         replace hH := HS.call (Ns1 := [_]) hH hC
         clear hC
         replace hH := hH.pick [1, 10, 0, 2, 3, 4, 5, 6, 7, 8, 9, 11] (Hs' := [_, _, _, _, _, _, _, _, _, _, _, _]) rfl
         replace hH := hH.join
         obtain ⟨D1, hD1⟩ : ∃ D, D = N_x1 ++ N_md := ⟨_, rfl⟩
         rw [← hD1] at hH
         have hsub : ∀ p ∈ N_md, p ∈ D1 := fun p hp => by rw [hD1]; exact List.mem_append_right _ hp
         have hXu : RdH D1 x1 e.b := (Own.rdh hO_x1).mono (fun p hp => by rw [hD1]; exact List.mem_append_left _ hp)
         have hX1 := hX_m.mono hsub
         have hR1 := hR_m.mono hsub
         replace hH := hH.nilFront
         refine wpList_nil ?_
         refine hK24 _ _ ?_
         clear hK24
         replace hA := hA.sub (E' := [(99, _), (98, _), (14, _), (97, _), (96, _), (95, _), (94, _), (93, _), (84, _), (83, _), (82, _), (81, _), (80, _), (75, _), (79, _), (78, _), (77, _), (76, _), (74, _), (73, _), (72, _), (71, _), (70, _), (69, _), (68, _), (67, _), (66, _), (65, _), (64, _), (63, _), (62, _), (61, _), (60, _), (59, _), (13, _), (58, _), (57, _), (56, _), (55, _), (52, _), (51, _), (50, _), (49, _), (48, _), (47, _), (46, _), (45, _), (44, _), (12, _), (11, _), (10, _), (9, _), (8, _), (7, _), (6, _), (0, _), (2, _)]) ⟨rfl, rfl, rfl, rfl, rfl, rfl, rfl, rfl, rfl, rfl, rfl, rfl, rfl, rfl, rfl, rfl, rfl, rfl, rfl, rfl, rfl, rfl, rfl, rfl, rfl, rfl, rfl, rfl, rfl, rfl, rfl, rfl, rfl, rfl, rfl, rfl, rfl, rfl, rfl, rfl, rfl, rfl, rfl, rfl, rfl, rfl, rfl, rfl, rfl, rfl, rfl, rfl, rfl, rfl, rfl, rfl, rfl, trivial⟩
         refine wp_seq_k fun K30 hK30 => ?_
         refine wp_seq_k fun K31 hK31 => ?_
         refine wp_region_lit ?_
         refine mv hA fun a hA => ?_
         refine sq hA (q_eqlI (n := 100) rfl rfl) rfl fun a hA => ?_
         replace hA := hA.decT (by rfl)
         refine mv hA fun a hA => ?_
         replace hH := hH.pick [3, 0, 1, 2, 4, 5, 6, 7, 8, 9, 10, 11] (Hs' := [_, _, _, _, _, _, _, _, _, _, _, _]) rfl
         refine sl hA (lo_call fn30 rfl (down_tm b_t T1 N_t hT (HS.handed (Ns1 := [_]) hH))) rfl ?_
         rintro _ w ⟨N_t, rfl, hT, hC⟩ a hA
         replace hH := HS.call (Ns1 := [_]) hH hC
         clear hC
         rw [hd1] at hA
         refine sq hA (q_neqB Tryd.underlying4 rfl rfl) rfl fun a hA => ?_
         replace hA := hA.decF (by exact fun h => h rfl)
         refine mv hA fun a hA => ?_
         refine gq hA rfl rfl (q_move rfl) rfl fun a hA => ?_
         refine gq hA rfl rfl (q_neqI (n := 0) rfl rfl) rfl fun a hA => ?_
         replace hA := hA.decT (by decide)
         refine gq hA rfl rfl (q_move rfl) rfl fun a hA => ?_
         refine gq hA rfl rfl (q_move rfl) rfl fun a hA => ?_
         refine gq hA rfl rfl (q_neqI (n := 100) rfl rfl) rfl fun a hA => ?_
         replace hA := hA.decF (by exact fun h => h rfl)
         refine gq hA rfl rfl (q_pick_t rfl rfl) rfl fun a hA => ?_
         refine sq hA (q_pick_f rfl rfl) rfl fun a hA => ?_
         refine wpList_nil ?_
         refine hK31 _ _ ?_
         clear hK31
         refine cond_f hA rfl ?_
         refine wp_skip ?_
         refine hK30 _ _ ?_
         clear hK30
         refine wp_seq_k fun K32 hK32 => ?_
         refine wp_region_lit ?_
         refine mv hA fun a hA => ?_
         refine sq hA (q_eqlI (n := 0) rfl rfl) rfl fun a hA => ?_
         replace hA := hA.decF (by decide)
         refine wpList_nil ?_
         refine hK32 _ _ ?_
         clear hK32
         refine cond_f hA rfl ?_
         refine wp_skip ?_
         refine block_normal ?_
         refine hK18 _ _ ?_
         clear hK18
         refine wp_region_lit ?_
         refine mv hA fun a hA => ?_
         refine sq hA (q_addI (n := 1) rfl rfl (by omega)) rfl fun a hA => ?_
         refine asg hA fun a hA => ?_
         refine wpList_nil ?_
         replace hH := hH.pick [0, 4, 9, 3, 10, 2, 1, 5, 6, 7, 8, 11] (Hs' := [_, _, _, _, _, _, _, _, _, _, _, _]) rfl
         replace hH := hH.pick [0, 1, 2, 3, 4, 5, 6] (Hs' := [_, _, _, _, _, _, _]) rfl
         exact ⟨_, by omega, i + 1, b_m, g, x, rr, text, recs, g + 1, x1, nilV, T1, V1, N_t, N_v, N_mo, D1, [], hA.sub ⟨rfl, rfl, rfl, rfl, rfl, rfl, rfl, rfl, rfl, trivial⟩, hH, by omega, by first | exact hW1 | exact hW.mono (Nat.le_succ _), by exact hT, by exact hV_v, by first | exact hXu | exact hX1 | exact hX_m, by first | exact hR_u | exact hR1 | exact (RowsH.nil _).mono (fun p hp => by cases hp) | exact hR_m, by first | omega | (rw [List.length_append, List.length_singleton]; omega) | exact Nat.zero_le _, by first | exact hM | exact hM.snoc (by omega) (by omega) | exact VOk.saved (by omega) (by omega), by first | exact Dn.live hd rfl | exact Dn.live hd1 hV1' | exact Dn.gone hd1 a3 hX1 hR_u (hM.snoc (by omega) (by omega)) a5 | exact Dn.gone hd1 a3 hXu ((RowsH.nil _).mono (fun p hp => by cases hp)) (VOk.saved (by omega) (by omega)) a5, rfl⟩
      ·skip
       refine mv hA fun a hA => ?_
       refine gs hA rfl rfl rfl rfl fun a hA => ?_
       refine gs hA rfl rfl rfl rfl fun a hA => ?_
       refine gs hA rfl rfl rfl rfl fun a hA => ?_
       refine sq hA (q_pick_f rfl rfl) rfl fun a hA => ?_
       refine wpList_nil ?_
       refine hK21 _ _ ?_
       clear hK21
       refine cond_f hA rfl ?_
       refine wp_skip ?_
       refine hK20 _ _ ?_
       clear hK20
       refine wp_seq_k fun K33 hK33 => ?_
       refine any_go mixed (fun j => !(Nat.beq j 15)) hH ?_
       clear hH; intro w hH
       have hS := hH
       refine any_l 16 ?_
       refine p0 hA 0 1 rfl (fun w => (q_move rfl)) fun a hA => ?_
       refine p0 hA 1 3 rfl (fun w => (q_nilCheck rfl)) fun a hA => ?_
       refine p0 hA 2 7 rfl (fun w => (q_fld 0 Tryd.underlying35 rfl rfl ti3 rfl)) fun a hA => ?_
       refine r0 hA 3 15 rfl hS (fun w hH => (q_loadB hH 3 rfl (List.mem_singleton.2 rfl) Tryd.underlying3 rfl rfl rfl)) fun a hA => ?_
       refine p0 hA 4 31 rfl (fun w => (q_move rfl)) fun a hA => ?_
       refine p0 hA 5 63 rfl (fun w => (q_nilCheck rfl)) fun a hA => ?_
       refine p0 hA 6 127 rfl (fun w => (q_fld 1 Tryd.underlying35 rfl rfl ti32 rfl)) fun a hA => ?_
       refine r0 hA 7 255 rfl hS (fun w hH => (q_loadB hH 3 rfl (List.mem_singleton.2 rfl) Tryd.underlying32 rfl rfl rfl)) fun a hA => ?_
       refine p0 hA 9 767 rfl (fun w => (q_move rfl)) fun a hA => ?_
       refine p0 hA 10 1791 rfl (fun w => (q_nilCheck rfl)) fun a hA => ?_
       refine p0 hA 11 3839 rfl (fun w => (q_fld 2 Tryd.underlying35 rfl rfl ti33 rfl)) fun a hA => ?_
       refine r0 hA 12 7935 rfl hS (fun w hH => (q_loadB hH 3 rfl (List.mem_singleton.2 rfl) Tryd.underlying33 rfl rfl rfl)) fun a hA => ?_
       refine a1 hA 8 8191 rfl (lo_buildSlice (e := 32) (vs := []) (cs := []) (k := 1) (bb := 0) (z := undef) hH rfl rfl (fun w => by kernel_rfl)) ?_
       clear hH; rintro v_t75 w ⟨N_t75, hO_t75, hH⟩
       have hR_t75 : RowsH 32 v_t75 [] N_t75 [] := ⟨[], rfl, hO_t75, fun i hi => absurd hi (Nat.not_lt_zero i)⟩
       clear hO_t75
       replace hH := hH.nilFront
       replace hS := hH.pick [2, 3, 4, 5, 6, 7, 8, 9] (Hs' := [_, _, _, _, _, _, _, _]) rfl
       refine ⟨fun _ _ => hS, ?_⟩
       intro a hA
       replace hH := hH.pick [1, 0, 2, 3, 4, 5, 6, 7, 8, 9] (Hs' := [_, _, _, _, _, _, _, _, _, _]) rfl
       have hx_t80 := hR_t75
       obtain ⟨vs_t80, hvl_t80, hvo_t80, hvr_t80⟩ := hx_t80
       have hx_xt80 := hR_m
       obtain ⟨vs_xt80, hvl_xt80, hvo_xt80, hvr_xt80⟩ := hx_xt80
       refine a1 hA 13 16383 rfl (lo_append hH Tryd.underlying33 Tryd.underlying33 (.inl rfl) ti32 rfl rfl rfl hvo_t80 (Rd.src (Own.rd0 hvo_xt80 hH 7 rfl)) (rows_one hvl_xt80 hvr_xt80 (RO.of hH 8 rfl)) (by first | omega | (simp; done) | (simp; omega)) (by first | omega | (simp; done) | (simp; omega))) ?_
       clear hH; rintro v_t80 w ⟨N_t80, hO_t80, hH⟩
       have hR_t80 := RowsH.copy0 rfl hvl_t80 hO_t80 hvl_xt80 hvr_xt80
       replace hS := hH.pick [2, 3, 4, 5, 6, 7, 8, 9] (Hs' := [_, _, _, _, _, _, _, _]) rfl
       refine ⟨fun _ _ => hS, ?_⟩
       intro a hA
       refine p0 hA 14 32767 rfl (fun w => (q_buildC (css := [_, [x], [v_t80]]) (z := [(I 0), (.slice none 0 0), (.slice none 0 0)]) (BT.mk (pl := [(0, 1), (1, 1), (2, 1)]) (it := Tryd.t35) (by kernel_rfl) Tryd.underlying35 (by kernel_rfl) (by kernel_rfl)) rfl ⟨rfl, ⟨_, rfl, by first | rfl | (simp [Value.cells]; done) | (simp [Value.cells, *]; done), by decide⟩, cells_one (Rd.one (hX_m [] _ (RO.of hH 8 rfl))), ⟨_, rfl, by first | rfl | (simp [Value.cells]; done) | (simp [Value.cells, *]; done), by decide⟩, cells_one (RowsH.one hR_t80), ⟨_, rfl, by first | rfl | (simp [Value.cells]; done) | (simp [Value.cells, *]; done), by decide⟩, trivial⟩)) fun a hA => ?_
       replace hH := hH.pick [6, 0, 1, 2, 3, 4, 5, 7, 8, 9] (Hs' := [_, _, _, _, _, _, _, _, _, _]) rfl
       refine a0n hA 15 65535 rfl (lo_storeAm hH ti35 rfl rfl (rfl) (rfl) (ones_cons rfl (ones_cons (Rd.one (hX_m [] _ (RO.of hH 8 rfl))) (ones_cons (RowsH.one hR_t80) ones_nil)))) ?_
       clear hH; rintro _ w hH
       replace hH : HS _ _ _ ([(b_t11, Obj.cells (mC g x v_t80).toArray 35 (0, 0))] :: _) := hH
       refine a_end (by kernel_rfl) ?_ _
       refine hK33 _ _ ?_
       clear hK33
       refine wp_seq_k fun K34 hK34 => ?_
       refine wp_region_lit ?_
       refine asg hA fun a hA => ?_
       refine wpList_nil ?_
       refine hK34 _ _ ?_
       clear hK34
       refine wp_seq_k fun K35 hK35 => ?_
       refine wp_seq_k fun K36 hK36 => ?_
       refine wp_region_lit ?_
       refine sq hA (q_fld 0 Tryd.underlying39 rfl rfl ti3 rfl) rfl fun a hA => ?_
       refine sq hA (q_loadB hH 3 rfl (List.mem_singleton.2 rfl) Tryd.underlying3 rfl rfl rfl) rfl fun a hA => ?_
       refine sq hA (q_eqlI (n := 0) rfl rfl) rfl fun a hA => ?_
       refine wpList_nil ?_
       refine hK36 _ _ ?_
       clear hK36
       refine cond_d hA rfl (fun _ => ?_) (fun hnn => absurd ((by omega)) hnn)
       refine wp_seq_k fun K37 hK37 => ?_
       refine wp_region_lit ?_
       refine mv hA fun a hA => ?_
       refine sq hA (q_fld 1 Tryd.underlying39 rfl rfl ti32 rfl) rfl fun a hA => ?_
       refine sq hA (q_loadB hH 3 rfl (List.mem_singleton.2 rfl) Tryd.underlying32 rfl rfl rfl) rfl fun a hA => ?_
       refine sl hA (lo_call fn18 rfl (lown12_any _ _ (hH.rd he.1) (by first | omega | (simp; done) | (simp; omega)))) rfl ?_
       rintro _ w ⟨v_t88, N_t88, rfl, hO_t88, hC⟩ a hA
       replace hH := HS.call0 hH hC
       clear hC
       replace hH := hH.pick [5, 6, 0, 1, 2, 3, 4, 7, 8, 9, 10] (Hs' := [_, _, _, _, _, _, _, _, _, _, _]) rfl
       refine sl hA (lo_call fn22 rfl (add_vm (hg.mono0 hH) b_v b_t ⟨g, text, recs, false⟩ T N_t N_v hV_v hT (fun _ => hW.rdy.mono (by decide)) hW.vok (Gl.ngs (Ns1 := [_, _]) hg NG.nil hH) _ _ (Own.rdM hO_t88 (Ns1 := [_, _]) hH 0 rfl) (HS.handed (Ns1 := [_, _]) hH))) rfl ?_
       rintro _ w ⟨N_t, N_v, rfl, hT, hV_v, hC⟩ a hA
       replace hH := HS.call (Ns1 := [_, _]) hH hC
       clear hC
       have hW1 := hW.add he5.1 (by omega)
       obtain ⟨T1, hT1⟩ : ∃ z, z = (addV T ⟨g, text, recs, false⟩ e.b).2.1 := ⟨_, rfl⟩
       obtain ⟨V1, hV1⟩ : ∃ z, z = (addV T ⟨g, text, recs, false⟩ e.b).2.2 := ⟨_, rfl⟩
       rw [← hT1] at hT hW1
       rw [← hV1] at hV_v hW1
       rcases add_inv hI (b := e.b) (by omega) (by have := (hW.sz 0).1; omega) with ⟨a1, a2, a3, _, _⟩ | ⟨a1, a2, a3, a4, a5, _⟩
       ·skip
        rw [a1] at hA
        rw [← hT1] at a3
        have hd1 : T1.down = false := a3.dn
        have hV1' := hV1.trans a2
        refine asg hA fun a hA => ?_
        refine wpList_nil ?_
        refine hK37 _ _ ?_
        clear hK37
        refine wp_region_lit ?_
        refine sq hA (q_fld 1 Tryd.underlying39 rfl rfl ti32 rfl) rfl fun a hA => ?_
        refine sq hA (q_loadB hH 6 rfl (List.mem_singleton.2 rfl) Tryd.underlying32 rfl rfl rfl) rfl fun a hA => ?_
        replace hH := hH.pick [3, 4, 9, 0, 1, 2, 5, 6, 7, 8, 10] (Hs' := [_, _, _, _, _, _, _, _, _, _, _]) rfl
        refine sl hA (lo_call fn28 rfl (refadd_sh b_t11 g x v_t80 recs N_t80 N_md hR_t80 (by omega) _ _ (HS.rdM (Ns1 := [_, _, _]) hH he.1) (by omega) (HS.handed (Ns1 := [_, _, _]) hH))) rfl ?_
        rintro _ w ⟨rq, N_u1, D1, rfl, hR_u, hsub, hC⟩ a hA
        replace hH := HS.call (Ns1 := [_, _, _]) hH hC
        clear hC
        have hX1 := hX_m.mono hsub
        have hR1 := hR_m.mono hsub
        refine wpList_nil ?_
        refine hK35 _ _ ?_
        clear hK35
        replace hA := hA.sub (E' := [(91, _), (90, _), (14, _), (89, _), (88, _), (87, _), (86, _), (85, _), (84, _), (83, _), (82, _), (81, _), (80, _), (75, _), (79, _), (78, _), (77, _), (76, _), (74, _), (73, _), (72, _), (71, _), (70, _), (69, _), (68, _), (67, _), (66, _), (62, _), (61, _), (60, _), (59, _), (13, _), (58, _), (57, _), (56, _), (55, _), (52, _), (51, _), (50, _), (49, _), (48, _), (47, _), (46, _), (45, _), (44, _), (12, _), (11, _), (10, _), (9, _), (8, _), (7, _), (6, _), (0, _), (2, _)]) ⟨rfl, rfl, rfl, rfl, rfl, rfl, rfl, rfl, rfl, rfl, rfl, rfl, rfl, rfl, rfl, rfl, rfl, rfl, rfl, rfl, rfl, rfl, rfl, rfl, rfl, rfl, rfl, rfl, rfl, rfl, rfl, rfl, rfl, rfl, rfl, rfl, rfl, rfl, rfl, rfl, rfl, rfl, rfl, rfl, rfl, rfl, rfl, rfl, rfl, rfl, rfl, rfl, rfl, rfl, trivial⟩
        refine wp_seq_k fun K38 hK38 => ?_
        refine wp_seq_k fun K39 hK39 => ?_
        refine wp_region_lit ?_
        refine mv hA fun a hA => ?_
        refine sq hA (q_eqlI (n := 100) rfl rfl) rfl fun a hA => ?_
        replace hA := hA.decF (by decide)
        refine mv hA fun a hA => ?_
        replace hH := hH.pick [3, 0, 1, 2, 4, 5, 6, 7, 8, 9, 10] (Hs' := [_, _, _, _, _, _, _, _, _, _, _]) rfl
        refine sl hA (lo_call fn30 rfl (down_tm b_t T1 N_t hT (HS.handed (Ns1 := [_]) hH))) rfl ?_
        rintro _ w ⟨N_t, rfl, hT, hC⟩ a hA
        replace hH := HS.call (Ns1 := [_]) hH hC
        clear hC
        rw [hd1] at hA
        refine sq hA (q_neqB Tryd.underlying4 rfl rfl) rfl fun a hA => ?_
        replace hA := hA.decF (by exact fun h => h rfl)
        refine mv hA fun a hA => ?_
        refine gq hA rfl rfl (q_move rfl) rfl fun a hA => ?_
        refine gq hA rfl rfl (q_neqI (n := 0) rfl rfl) rfl fun a hA => ?_
        replace hA := hA.decF (by exact fun h => h rfl)
        refine gq hA rfl rfl (q_move rfl) rfl fun a hA => ?_
        refine gs hA rfl rfl rfl rfl fun a hA => ?_
        refine gs hA rfl rfl rfl rfl fun a hA => ?_
        refine gq hA rfl rfl (q_pick_f rfl rfl) rfl fun a hA => ?_
        refine sq hA (q_pick_f rfl rfl) rfl fun a hA => ?_
        refine wpList_nil ?_
        refine hK39 _ _ ?_
        clear hK39
        refine cond_f hA rfl ?_
        refine wp_skip ?_
        refine hK38 _ _ ?_
        clear hK38
        refine wp_seq_k fun K40 hK40 => ?_
        refine wp_region_lit ?_
        refine mv hA fun a hA => ?_
        refine sq hA (q_eqlI (n := 0) rfl rfl) rfl fun a hA => ?_
        replace hA := hA.decT (by rfl)
        refine wpList_nil ?_
        refine hK40 _ _ ?_
        clear hK40
        refine cond_t hA rfl ?_
        refine wp_region_lit ?_
        refine sq hA (q_fld 0 Tryd.underlying35 rfl rfl ti3 rfl) rfl fun a hA => ?_
        refine sq hA (q_loadB hH 1 rfl (List.mem_singleton.2 rfl) Tryd.underlying3 rfl rfl rfl) rfl fun a hA => ?_
        refine sq hA (q_fld 1 Tryd.underlying35 rfl rfl ti32 rfl) rfl fun a hA => ?_
        refine sq hA (q_loadB hH 1 rfl (List.mem_singleton.2 rfl) Tryd.underlying32 rfl rfl rfl) rfl fun a hA => ?_
        refine sq hA (q_fld 2 Tryd.underlying35 rfl rfl ti33 rfl) rfl fun a hA => ?_
        refine sq hA (q_loadB hH 1 rfl (List.mem_singleton.2 rfl) Tryd.underlying33 rfl rfl rfl) rfl fun a hA => ?_
        refine sq hA (q_buildC (css := [_, [x], [rq]]) (z := [(I 0), (.slice none 0 0), (.slice none 0 0)]) (BT.mk (pl := [(0, 1), (1, 1), (2, 1)]) (it := Tryd.t35) (by kernel_rfl) Tryd.underlying35 (by kernel_rfl) (by kernel_rfl)) rfl ⟨rfl, ⟨_, rfl, by first | rfl | (simp [Value.cells]; done) | (simp [Value.cells, *]; done), by decide⟩, cells_one (Rd.one (hX1 [] _ (RO.of hH 3 rfl))), ⟨_, rfl, by first | rfl | (simp [Value.cells]; done) | (simp [Value.cells, *]; done), by decide⟩, cells_one (RowsH.one hR_u), ⟨_, rfl, by first | rfl | (simp [Value.cells]; done) | (simp [Value.cells, *]; done), by decide⟩, trivial⟩) rfl fun a hA => ?_
        refine sl hA (lo_boxA hH rfl) rfl ?_
        clear hH; rintro _ w ⟨b_t123, rfl, hH⟩ a hA
        replace hH : HS _ _ _ ([(b_t123, Obj.cells (mC g x rq).toArray 35 (0, 0))] :: _) := hH
        refine asg hA fun a hA => ?_
        refine wpList_nil ?_
        refine block_normal ?_
        refine hK18 _ _ ?_
        clear hK18
        refine wp_region_lit ?_
        refine mv hA fun a hA => ?_
        refine sq hA (q_addI (n := 1) rfl rfl (by omega)) rfl fun a hA => ?_
        refine asg hA fun a hA => ?_
        refine wpList_nil ?_
        replace hH := hH.pick [1, 5, 0, 2, 3, 4, 11, 6, 7, 8, 9, 10] (Hs' := [_, _, _, _, _, _, _, _, _, _, _, _]) rfl
        replace hH := hH.pick [0, 1, 2, 3, 4, 5, 6] (Hs' := [_, _, _, _, _, _, _]) rfl
        exact ⟨_, by omega, i + 1, b_t123, g, x, rq, text, recs ++ [e.b], g, x, rq, T1, V1, N_t, N_v, N_u1, D1, N_uo, hA.sub ⟨rfl, rfl, rfl, rfl, rfl, rfl, rfl, rfl, rfl, trivial⟩, hH, by omega, by first | exact hW1 | exact hW.mono (Nat.le_succ _), by exact hT, by exact hV_v, by first | exact hXu | exact hX1 | exact hX_m, by first | exact hR_u | exact hR1 | exact (RowsH.nil _).mono (fun p hp => by cases hp) | exact hR_m, by first | omega | (rw [List.length_append, List.length_singleton]; omega) | exact Nat.zero_le _, by first | exact hM | exact hM.snoc (by omega) (by omega) | exact VOk.saved (by omega) (by omega), by first | exact Dn.live hd rfl | exact Dn.live hd1 hV1' | exact Dn.gone hd1 a3 hX1 hR_u (hM.snoc (by omega) (by omega)) a5 | exact Dn.gone hd1 a3 hXu ((RowsH.nil _).mono (fun p hp => by cases hp)) (VOk.saved (by omega) (by omega)) a5, rfl⟩
       ·skip
        rw [a1] at hA
        rw [← hT1] at a2 a4 a5
        rw [← hV1] at a3
        have hd1 := a2
        refine asg hA fun a hA => ?_
        refine wpList_nil ?_
        refine hK37 _ _ ?_
        clear hK37
        refine wp_region_lit ?_
        refine sq hA (q_fld 1 Tryd.underlying39 rfl rfl ti32 rfl) rfl fun a hA => ?_
        refine sq hA (q_loadB hH 6 rfl (List.mem_singleton.2 rfl) Tryd.underlying32 rfl rfl rfl) rfl fun a hA => ?_
        replace hH := hH.pick [3, 4, 9, 0, 1, 2, 5, 6, 7, 8, 10] (Hs' := [_, _, _, _, _, _, _, _, _, _, _]) rfl
        refine sl hA (lo_call fn28 rfl (refadd_sh b_t11 g x v_t80 recs N_t80 N_md hR_t80 (by omega) _ _ (HS.rdM (Ns1 := [_, _, _]) hH he.1) (by omega) (HS.handed (Ns1 := [_, _, _]) hH))) rfl ?_
        rintro _ w ⟨rq, N_u1, D1, rfl, hR_u, hsub, hC⟩ a hA
        replace hH := HS.call (Ns1 := [_, _, _]) hH hC
        clear hC
        have hX1 := hX_m.mono hsub
        have hR1 := hR_m.mono hsub
        refine wpList_nil ?_
        refine hK35 _ _ ?_
        clear hK35
        replace hA := hA.sub (E' := [(91, _), (90, _), (14, _), (89, _), (88, _), (87, _), (86, _), (85, _), (84, _), (83, _), (82, _), (81, _), (80, _), (75, _), (79, _), (78, _), (77, _), (76, _), (74, _), (73, _), (72, _), (71, _), (70, _), (69, _), (68, _), (67, _), (66, _), (62, _), (61, _), (60, _), (59, _), (13, _), (58, _), (57, _), (56, _), (55, _), (52, _), (51, _), (50, _), (49, _), (48, _), (47, _), (46, _), (45, _), (44, _), (12, _), (11, _), (10, _), (9, _), (8, _), (7, _), (6, _), (0, _), (2, _)]) ⟨rfl, rfl, rfl, rfl, rfl, rfl, rfl, rfl, rfl, rfl, rfl, rfl, rfl, rfl, rfl, rfl, rfl, rfl, rfl, rfl, rfl, rfl, rfl, rfl, rfl, rfl, rfl, rfl, rfl, rfl, rfl, rfl, rfl, rfl, rfl, rfl, rfl, rfl, rfl, rfl, rfl, rfl, rfl, rfl, rfl, rfl, rfl, rfl, rfl, rfl, rfl, rfl, rfl, rfl, trivial⟩
        refine wp_seq_k fun K41 hK41 => ?_
        refine wp_seq_k fun K42 hK42 => ?_
        refine wp_region_lit ?_
        refine mv hA fun a hA => ?_
        refine sq hA (q_eqlI (n := 100) rfl rfl) rfl fun a hA => ?_
        replace hA := hA.decT (by rfl)
        refine mv hA fun a hA => ?_
        replace hH := hH.pick [3, 0, 1, 2, 4, 5, 6, 7, 8, 9, 10] (Hs' := [_, _, _, _, _, _, _, _, _, _, _]) rfl
        refine sl hA (lo_call fn30 rfl (down_tm b_t T1 N_t hT (HS.handed (Ns1 := [_]) hH))) rfl ?_
        rintro _ w ⟨N_t, rfl, hT, hC⟩ a hA
        replace hH := HS.call (Ns1 := [_]) hH hC
        clear hC
        rw [hd1] at hA
        refine sq hA (q_neqB Tryd.underlying4 rfl rfl) rfl fun a hA => ?_
        replace hA := hA.decF (by exact fun h => h rfl)
        refine mv hA fun a hA => ?_
        refine gq hA rfl rfl (q_move rfl) rfl fun a hA => ?_
        refine gq hA rfl rfl (q_neqI (n := 0) rfl rfl) rfl fun a hA => ?_
        replace hA := hA.decT (by decide)
        refine gq hA rfl rfl (q_move rfl) rfl fun a hA => ?_
        refine gq hA rfl rfl (q_move rfl) rfl fun a hA => ?_
        refine gq hA rfl rfl (q_neqI (n := 100) rfl rfl) rfl fun a hA => ?_
        replace hA := hA.decF (by exact fun h => h rfl)
        refine gq hA rfl rfl (q_pick_t rfl rfl) rfl fun a hA => ?_
        refine sq hA (q_pick_f rfl rfl) rfl fun a hA => ?_
        refine wpList_nil ?_
        refine hK42 _ _ ?_
        clear hK42
        refine cond_f hA rfl ?_
        refine wp_skip ?_
        refine hK41 _ _ ?_
        clear hK41
        refine wp_seq_k fun K43 hK43 => ?_
        refine wp_region_lit ?_
        refine mv hA fun a hA => ?_
        refine sq hA (q_eqlI (n := 0) rfl rfl) rfl fun a hA => ?_
        replace hA := hA.decF (by decide)
        refine wpList_nil ?_
        refine hK43 _ _ ?_
        clear hK43
        refine cond_f hA rfl ?_
        refine wp_skip ?_
        refine block_normal ?_
        refine hK18 _ _ ?_
        clear hK18
        refine wp_region_lit ?_
        refine mv hA fun a hA => ?_
        refine sq hA (q_addI (n := 1) rfl rfl (by omega)) rfl fun a hA => ?_
        refine asg hA fun a hA => ?_
        refine wpList_nil ?_
        replace hH := hH.pick [0, 4, 8, 1, 9, 3, 2, 5, 6, 7, 10] (Hs' := [_, _, _, _, _, _, _, _, _, _, _]) rfl
        replace hH := hH.pick [0, 1, 2, 3, 4, 5, 6] (Hs' := [_, _, _, _, _, _, _]) rfl
        exact ⟨_, by omega, i + 1, b_m, g, x, rr, text, recs, g, x, rq, T1, V1, N_t, N_v, N_mo, D1, N_u1, hA.sub ⟨rfl, rfl, rfl, rfl, rfl, rfl, rfl, rfl, rfl, trivial⟩, hH, by omega, by first | exact hW1 | exact hW.mono (Nat.le_succ _), by exact hT, by exact hV_v, by first | exact hXu | exact hX1 | exact hX_m, by first | exact hR_u | exact hR1 | exact (RowsH.nil _).mono (fun p hp => by cases hp) | exact hR_m, by first | omega | (rw [List.length_append, List.length_singleton]; omega) | exact Nat.zero_le _, by first | exact hM | exact hM.snoc (by omega) (by omega) | exact VOk.saved (by omega) (by omega), by first | exact Dn.live hd rfl | exact Dn.live hd1 hV1' | exact Dn.gone hd1 a3 hX1 hR_u (hM.snoc (by omega) (by omega)) a5 | exact Dn.gone hd1 a3 hXu ((RowsH.nil _).mono (fun p hp => by cases hp)) (VOk.saved (by omega) (by omega)) a5, rfl⟩
     ·skip
      refine mv hA fun a hA => ?_
      refine gs hA rfl rfl rfl rfl fun a hA => ?_
      refine gs hA rfl rfl rfl rfl fun a hA => ?_
      refine gs hA rfl rfl rfl rfl fun a hA => ?_
      refine sq hA (q_pick_f rfl rfl) rfl fun a hA => ?_
      refine wpList_nil ?_
      refine hK17 _ _ ?_
      clear hK17
      refine cond_f hA rfl ?_
      refine wp_exit ?_
      refine then_exit ?_
      refine then_exit ?_
      refine exit_here ?_
      refine hK14 _ _ ?_
      clear hK14
      replace hA := hA.s7 11 10 9 8 7 6 2
      refine wp_seq_k fun K44 hK44 => ?_
      refine wp_seq_k fun K45 hK45 => ?_
      refine wp_region_lit ?_
      refine mv hA fun a hA => ?_
      refine sl hA (lo_call fn30 rfl (down_tm b_t T N_t hT (HS.handed (Ns1 := [_]) hH))) rfl ?_
      rintro _ w ⟨N_t, rfl, hT, hC⟩ a hA
      replace hH := HS.call (Ns1 := [_]) hH hC
      clear hC
      rw [hd] at hA
      refine mv hA fun a hA => ?_
      refine gs hA rfl rfl rfl rfl fun a hA => ?_
      refine gs hA rfl rfl rfl rfl fun a hA => ?_
      refine gs hA rfl rfl rfl rfl fun a hA => ?_
      refine gsU hA rfl rfl rfl rfl fun a hA => ?_
      refine gs0U hA rfl rfl rfl fun a hA => ?_
      refine gs0U hA rfl rfl rfl fun a hA => ?_
      refine gs0U hA rfl rfl rfl fun a hA => ?_
      refine gs hA rfl rfl rfl rfl fun a hA => ?_
      refine gsU hA rfl rfl rfl rfl fun a hA => ?_
      refine gs0U hA rfl rfl rfl fun a hA => ?_
      refine gs0U hA rfl rfl rfl fun a hA => ?_
      refine gs0U hA rfl rfl rfl fun a hA => ?_
      refine gs0U hA rfl rfl rfl fun a hA => ?_
      refine gs hA rfl rfl rfl rfl fun a hA => ?_
      refine sq hA (q_pick_f rfl rfl) rfl fun a hA => ?_
      refine wpList_nil ?_
      refine hK45 _ _ ?_
      clear hK45
      replace hA := hA.s7 141 11 10 9 7 6 2
      refine cond_f hA rfl ?_
      refine wp_skip ?_
      refine hK44 _ _ ?_
      clear hK44
      replace hA := hA.s6 11 10 9 7 6 2
      refine wp_seq_k fun K46 hK46 => ?_
      refine wp_region_lit ?_
      refine mv hA fun a hA => ?_
      refine sl hA (lo_bs (f := I) (e := 3) ([]) hH rfl rfl (fun w => by kernel_rfl)) rfl ?_
      clear hH; rintro v_t144 w ⟨N_t144, hO_t144, hH⟩ a hA
      refine mv hA fun a hA => ?_
      refine sl hA (lo_appm hH Tryd.underlying37 Tryd.underlying37 (.inl rfl) ti3 rfl rfl rfl hO_t144 (Rd.src (hH.rd hks)) (one_I _) (by first | omega | (simp; done) | (simp; omega)) (by first | omega | (simp; done) | (simp; omega))) rfl ?_
      clear hH; rintro v_t146 w ⟨N_t146, hO_t146, hH⟩ a hA
      replace hO_t146 : Ow I 3 v_t146 ks N_t146 := by simpa using hO_t146
      replace hH := hH.pick [1, 0, 2, 3, 4, 5, 6, 7] (Hs' := [_, _, _, _, _, _, _, _]) rfl
      refine sl hA (lo_call fn15 rfl (crash_tm b_t T N_t hT hW.rdy.ok (fun i => Nat.le_trans (hW.rdy.op i) (by decide)) _ _ (Own.rdM hO_t146 (Ns1 := [_]) hH 0 rfl) (HS.handed (Ns1 := [_]) hH))) rfl ?_
      rintro _ w ⟨b_x, N_t, N_x, rfl, hT, hT_x, hC⟩ a hA
      replace hH := HS.call (Ns1 := [_]) hH hC
      clear hC
      obtain ⟨hcr1, hcr2⟩ := crash_rdy hW.rdy hW.sz (by omega) ks
      obtain ⟨hcm, hco⟩ := crash_mend hcr1.ok
      obtain ⟨Tc, hTc⟩ : ∃ x, x = T.crash ks := ⟨_, rfl⟩
      rw [← hTc] at hT_x hcr1 hcr2 hcm hco
      have hSc : Sz2 Tc 30000 := hcr2.mono (by omega)
      have hdc : Tc.down = false := by rw [hTc]; rfl
      have hoc : ∀ i, (Tc.fs i).op = [] ∧ (Tc.fs i).sure = (Tc.fs i).now := by rw [hTc]; exact fun i => ⟨rfl, rfl⟩
      have hOc : VOk (opnT Tc) := opnT_vok hSc (by decide)
      obtain ⟨ho1, ho2, ho3⟩ := outs_len hOc
      replace hH := hH.pick [1, 0, 2, 3, 4, 5, 6, 7, 8] (Hs' := [_, _, _, _, _, _, _, _, _]) rfl
      refine sl hA (lo_call fn13 rfl (open_ok (hg.mono0 hH) b_x Tc N_x hT_x (hcr1.mono (by decide)) hdc (hSc.mono (by decide)).sz hcm (hg.ng NG.nil hH) (HS.handed (Ns1 := [_]) hH))) rfl ?_
      rintro _ w ⟨b_w, N_x, N_w, rfl, hT_x, hV_w, hC⟩ a hA
      replace hH := HS.call (Ns1 := [_]) hH hC
      clear hC
      refine mv hA fun a hA => ?_
      refine sq hA (q_extract rfl rfl) rfl fun a hA => ?_
      refine sq hA (q_extract rfl rfl) rfl fun a hA => ?_
      refine asg hA fun a hA => ?_
      refine asg hA fun a hA => ?_
      refine wpList_nil ?_
      refine hK46 _ _ ?_
      clear hK46
      replace hA := hA.s6 9 15 11 10 7 6
      refine wp_seq_k fun K47 hK47 => ?_
      refine wp_seq_k fun K48 hK48 => ?_
      refine wp_region_lit ?_
      refine mv hA fun a hA => ?_
      refine sq hA (q_neqI (n := 0) rfl rfl) rfl fun a hA => ?_
      replace hA := hA.decF (by exact fun h => h rfl)
      refine wpList_nil ?_
      refine hK48 _ _ ?_
      clear hK48
      replace hA := hA.s6 152 15 11 10 7 6
      refine cond_f hA rfl ?_
      refine wp_skip ?_
      refine hK47 _ _ ?_
      clear hK47
      replace hA := hA.s5 15 11 10 7 6
      refine wp_seq_k fun K49 hK49 => ?_
      refine wp_region_lit ?_
      refine mv hA fun a hA => ?_
      refine mv hA fun a hA => ?_
      replace hH := hH.pick [1, 5, 7, 8, 0, 2, 3, 4, 6, 9] (Hs' := [_, _, _, _, _, _, _, _, _, _]) rfl
      refine sl hA (lo_call fn14 rfl (same12_sh b_w b_x (opnT Tc) N_w hV_w hOc b_m g x rr text recs N_mo N_md hX_m hR_m hM (HS.handed (Ns1 := [_, _, _, _]) hH))) rfl ?_
      rintro _ w ⟨N_w, rfl, hV_w, hC⟩ a hA
      replace hH := HS.call (Ns1 := [_, _, _, _]) hH hC
      clear hC
      replace hA := hA.decT (by (rw [hTc]; exact inv_seq hI ks))
      refine mv hA fun a hA => ?_
      refine gs hA rfl rfl rfl rfl fun a hA => ?_
      refine gs hA rfl rfl rfl rfl fun a hA => ?_
      refine gsU hA rfl rfl rfl rfl fun a hA => ?_
      refine gs0U hA rfl rfl rfl fun a hA => ?_
      refine gs0U hA rfl rfl rfl fun a hA => ?_
      refine gs hA rfl rfl rfl rfl fun a hA => ?_
      refine sq hA (q_pick_t rfl rfl) rfl fun a hA => ?_
      refine mv hA fun a hA => ?_
      refine gl hA rfl rfl (lo_call fn11 rfl (awake12_any (hg.mono0 hH))) rfl ?_
      rintro _ w ⟨rfl, hC⟩ a hA
      replace hH := HS.call0 hH hC
      clear hC
      refine sq hA (q_pick_t rfl rfl) rfl fun a hA => ?_
      refine asg hA fun a hA => ?_
      refine wpList_nil ?_
      refine hK49 _ _ ?_
      clear hK49
      replace hA := hA.s1 6
      refine wp_ret ?_
      refine post_ret hA (res_1 rfl hA rfl) ?_
      replace hH := hH.pick [] (Hs' := []) rfl
      exact ⟨_, rfl, rfl, hH⟩
    ·skip
     obtain ⟨hvd, tu, su, hXu, hRu, hOu, hCr⟩ := hD.2 hd
     refine mv hA fun a hA => ?_
     refine sq hA (q_len Tryd.underlying22 rfl (Rd.shp hcr.1)) rfl fun a hA => ?_
     refine sq hA (q_lssI rfl rfl) rfl fun a hA => ?_
     refine hA.spl (fun hs47 hA => ?_) (fun hs47 hA => ?_)
     ·skip
      obtain ⟨e, hem, hei, hE3, hE0, hE1, hE2, he⟩ := hcr.get (i := i) (by omega)
      have he5 := hl5 e hem
      refine mv hA fun a hA => ?_
      refine gq hA rfl rfl (q_move rfl) rfl fun a hA => ?_
      refine gl hA rfl rfl (lo_call fn30 rfl (down_tm b_t T N_t hT (HS.handed (Ns1 := [_]) hH))) rfl ?_
      rintro _ w ⟨N_t, rfl, hT, hC⟩ a hA
      replace hH := HS.call (Ns1 := [_]) hH hC
      clear hC
      rw [hd] at hA
      refine gq hA rfl rfl (q_not rfl) rfl fun a hA => ?_
      refine sq hA (q_pick_t rfl rfl) rfl fun a hA => ?_
      refine wpList_nil ?_
      refine hK17 _ _ ?_
      clear hK17
      refine cond_f hA rfl ?_
      refine wp_exit ?_
      refine then_exit ?_
      refine then_exit ?_
      refine exit_here ?_
      refine hK14 _ _ ?_
      clear hK14
      replace hA := hA.s7 11 10 9 8 7 6 2
      refine wp_seq_k fun K50 hK50 => ?_
      refine wp_seq_k fun K51 hK51 => ?_
      refine wp_region_lit ?_
      refine mv hA fun a hA => ?_
      refine sl hA (lo_call fn30 rfl (down_tm b_t T N_t hT (HS.handed (Ns1 := [_]) hH))) rfl ?_
      rintro _ w ⟨N_t, rfl, hT, hC⟩ a hA
      replace hH := HS.call (Ns1 := [_]) hH hC
      clear hC
      rw [hd] at hA
      refine mv hA fun a hA => ?_
      refine gq hA rfl rfl (q_move rfl) rfl fun a hA => ?_
      refine gl hA rfl rfl (lo_call fn22 rfl (add_vm (hg.mono0 hH) b_v b_t V T N_t N_v hV_v hT (fun _ => hW.rdy.mono (by decide)) hW.vok (Gl.ngs (Ns1 := [_, _]) hg NG.nil hH) _ [] By.nilV (HS.handed (Ns1 := [_, _]) hH))) rfl ?_
      rintro _ w ⟨N_t, N_v, rfl, hT, hV_v, hC⟩ a hA
      replace hH := HS.call (Ns1 := [_, _]) hH hC
      clear hC
      rw [show (addV T V []).2.1 = T by rw [addV_1 hvd]] at hT
      rw [show (addV T V []).2.2 = V by rw [addV_1 hvd]] at hV_v
      rw [show (addV T V []).1 = 100 by rw [addV_1 hvd]] at hA
      refine gq hA rfl rfl (q_neqI (n := 100) rfl rfl) rfl fun a hA => ?_
      replace hA := hA.decF (by exact fun h => h rfl)
      refine gq hA rfl rfl (q_move rfl) rfl fun a hA => ?_
      refine gq hA rfl rfl (q_move rfl) rfl fun a hA => ?_
      replace hH := hH.pick [1, 0, 2, 3, 4, 5, 6] (Hs' := [_, _, _, _, _, _, _]) rfl
      refine gl hA rfl rfl (lo_call fn25 rfl (gen_vm b_v b_t V N_v hV_v hW.vok (HS.handed (Ns1 := [_]) hH))) rfl ?_
      rintro _ w ⟨N_v, rfl, hV_v, hC⟩ a hA
      replace hH := HS.call (Ns1 := [_]) hH hC
      clear hC
      rw [(outs_t hvd).1] at hA
      refine gq hA rfl rfl (q_neqI (n := 0) rfl rfl) rfl fun a hA => ?_
      replace hA := hA.decF (by exact fun h => h rfl)
      refine gq hA rfl rfl (q_pick_f rfl rfl) rfl fun a hA => ?_
      refine gq hA rfl rfl (q_move rfl) rfl fun a hA => ?_
      refine gq hA rfl rfl (q_move rfl) rfl fun a hA => ?_
      refine gl hA rfl rfl (lo_call fn23 rfl (recs_vm b_v b_t V N_v hV_v hW.vok (HS.handed (Ns1 := [_]) hH))) rfl ?_
      rintro _ w ⟨v_t137, N_t137, N_dt137, N_v, rfl, hR_t137, hV_v, hC⟩ a hA
      replace hH := HS.call (Ns1 := [_]) hH hC
      clear hC
      rw [(outs_t hvd).2.2] at hR_t137
      refine gq hA rfl rfl (q_len Tryd.underlying33 rfl (RowsH.shp hR_t137)) rfl fun a hA => ?_
      refine gq hA rfl rfl (q_neqI (n := 0) rfl rfl) rfl fun a hA => ?_
      replace hA := hA.decF (by exact fun h => h rfl)
      refine gq hA rfl rfl (q_pick_f rfl rfl) rfl fun a hA => ?_
      refine sq hA (q_pick_t rfl rfl) rfl fun a hA => ?_
      refine wpList_nil ?_
      refine hK51 _ _ ?_
      clear hK51
      replace hA := hA.s7 141 11 10 9 7 6 2
      refine cond_f hA rfl ?_
      refine wp_skip ?_
      refine hK50 _ _ ?_
      clear hK50
      replace hA := hA.s6 11 10 9 7 6 2
      refine wp_seq_k fun K52 hK52 => ?_
      refine wp_region_lit ?_
      refine mv hA fun a hA => ?_
      refine sl hA (lo_bs (f := I) (e := 3) ([]) hH rfl rfl (fun w => by kernel_rfl)) rfl ?_
      clear hH; rintro v_t144 w ⟨N_t144, hO_t144, hH⟩ a hA
      refine mv hA fun a hA => ?_
      refine sl hA (lo_appm hH Tryd.underlying37 Tryd.underlying37 (.inl rfl) ti3 rfl rfl rfl hO_t144 (Rd.src (hH.rd hks)) (one_I _) (by first | omega | (simp; done) | (simp; omega)) (by first | omega | (simp; done) | (simp; omega))) rfl ?_
      clear hH; rintro v_t146 w ⟨N_t146, hO_t146, hH⟩ a hA
      replace hO_t146 : Ow I 3 v_t146 ks N_t146 := by simpa using hO_t146
      replace hH := hH.pick [4, 0, 1, 2, 3, 5, 6, 7, 8, 9] (Hs' := [_, _, _, _, _, _, _, _, _, _]) rfl
      refine sl hA (lo_call fn15 rfl (crash_tm b_t T N_t hT hW.rdy.ok (fun i => Nat.le_trans (hW.rdy.op i) (by decide)) _ _ (Own.rdM hO_t146 (Ns1 := [_]) hH 0 rfl) (HS.handed (Ns1 := [_]) hH))) rfl ?_
      rintro _ w ⟨b_x, N_t, N_x, rfl, hT, hT_x, hC⟩ a hA
      replace hH := HS.call (Ns1 := [_]) hH hC
      clear hC
      obtain ⟨hcr1, hcr2⟩ := crash_rdy hW.rdy hW.sz (by omega) ks
      obtain ⟨hcm, hco⟩ := crash_mend hcr1.ok
      obtain ⟨Tc, hTc⟩ : ∃ x, x = T.crash ks := ⟨_, rfl⟩
      rw [← hTc] at hT_x hcr1 hcr2 hcm hco
      have hSc : Sz2 Tc 30000 := hcr2.mono (by omega)
      have hdc : Tc.down = false := by rw [hTc]; rfl
      have hoc : ∀ i, (Tc.fs i).op = [] ∧ (Tc.fs i).sure = (Tc.fs i).now := by rw [hTc]; exact fun i => ⟨rfl, rfl⟩
      have hOc : VOk (opnT Tc) := opnT_vok hSc (by decide)
      obtain ⟨ho1, ho2, ho3⟩ := outs_len hOc
      replace hH := hH.pick [1, 0, 2, 3, 4, 5, 6, 7, 8, 9, 10] (Hs' := [_, _, _, _, _, _, _, _, _, _, _]) rfl
      refine sl hA (lo_call fn13 rfl (open_ok (hg.mono0 hH) b_x Tc N_x hT_x (hcr1.mono (by decide)) hdc (hSc.mono (by decide)).sz hcm (hg.ng NG.nil hH) (HS.handed (Ns1 := [_]) hH))) rfl ?_
      rintro _ w ⟨b_w, N_x, N_w, rfl, hT_x, hV_w, hC⟩ a hA
      replace hH := HS.call (Ns1 := [_]) hH hC
      clear hC
      refine mv hA fun a hA => ?_
      refine sq hA (q_extract rfl rfl) rfl fun a hA => ?_
      refine sq hA (q_extract rfl rfl) rfl fun a hA => ?_
      refine asg hA fun a hA => ?_
      refine asg hA fun a hA => ?_
      refine wpList_nil ?_
      refine hK52 _ _ ?_
      clear hK52
      replace hA := hA.s6 9 15 11 10 7 6
      refine wp_seq_k fun K53 hK53 => ?_
      refine wp_seq_k fun K54 hK54 => ?_
      refine wp_region_lit ?_
      refine mv hA fun a hA => ?_
      refine sq hA (q_neqI (n := 0) rfl rfl) rfl fun a hA => ?_
      replace hA := hA.decF (by exact fun h => h rfl)
      refine wpList_nil ?_
      refine hK54 _ _ ?_
      clear hK54
      replace hA := hA.s6 152 15 11 10 7 6
      refine cond_f hA rfl ?_
      refine wp_skip ?_
      refine hK53 _ _ ?_
      clear hK53
      replace hA := hA.s5 15 11 10 7 6
      refine wp_seq_k fun K55 hK55 => ?_
      refine wp_region_lit ?_
      refine mv hA fun a hA => ?_
      refine mv hA fun a hA => ?_
      replace hH := hH.pick [1, 7, 9, 10, 0, 2, 3, 4, 5, 6, 8, 11] (Hs' := [_, _, _, _, _, _, _, _, _, _, _, _]) rfl
      refine sl hA (lo_call fn14 rfl (same12_sh b_w b_x (opnT Tc) N_w hV_w hOc b_m g x rr text recs N_mo N_md hX_m hR_m hM (HS.handed (Ns1 := [_, _, _, _]) hH))) rfl ?_
      rintro _ w ⟨N_w, rfl, hV_w, hC⟩ a hA
      replace hH := HS.call (Ns1 := [_, _, _, _]) hH hC
      clear hC
      refine hA.spl (fun hs155 hA => ?_) (fun hs155 hA => ?_)
      ·skip
       refine mv hA fun a hA => ?_
       refine gs hA rfl rfl rfl rfl fun a hA => ?_
       refine gs hA rfl rfl rfl rfl fun a hA => ?_
       refine gsU hA rfl rfl rfl rfl fun a hA => ?_
       refine gs0U hA rfl rfl rfl fun a hA => ?_
       refine gs0U hA rfl rfl rfl fun a hA => ?_
       refine gs hA rfl rfl rfl rfl fun a hA => ?_
       refine sq hA (q_pick_t rfl rfl) rfl fun a hA => ?_
       refine mv hA fun a hA => ?_
       refine gl hA rfl rfl (lo_call fn11 rfl (awake12_any (hg.mono0 hH))) rfl ?_
       rintro _ w ⟨rfl, hC⟩ a hA
       replace hH := HS.call0 hH hC
       clear hC
       refine sq hA (q_pick_t rfl rfl) rfl fun a hA => ?_
       refine asg hA fun a hA => ?_
       refine wpList_nil ?_
       refine hK55 _ _ ?_
       clear hK55
       replace hA := hA.s1 6
       refine wp_ret ?_
       refine post_ret hA (res_1 rfl hA rfl) ?_
       replace hH := hH.pick [] (Hs' := []) rfl
       exact ⟨_, rfl, rfl, hH⟩
      ·skip
       refine mv hA fun a hA => ?_
       refine gq hA rfl rfl (q_move rfl) rfl fun a hA => ?_
       replace hH := hH.pick [5, 0, 1, 2, 3, 4, 6, 7, 8, 9, 10, 11] (Hs' := [_, _, _, _, _, _, _, _, _, _, _, _]) rfl
       refine gl hA rfl rfl (lo_call fn30 rfl (down_tm b_t T N_t hT (HS.handed (Ns1 := [_]) hH))) rfl ?_
       rintro _ w ⟨N_t, rfl, hT, hC⟩ a hA
       replace hH := HS.call (Ns1 := [_]) hH hC
       clear hC
       rw [hd] at hA
       refine gq hA rfl rfl (q_move rfl) rfl fun a hA => ?_
       refine gq hA rfl rfl (q_move rfl) rfl fun a hA => ?_
       replace hH := hH.pick [1, 10, 11, 4, 0, 2, 3, 5, 6, 7, 8, 9] (Hs' := [_, _, _, _, _, _, _, _, _, _, _, _]) rfl
       refine gl hA rfl rfl (lo_call fn14 rfl (same12_sh b_w b_x (opnT Tc) N_w hV_w hOc b_t11 gu xu ru tu su N_uo N_md hXu hRu hOu (HS.handed (Ns1 := [_, _, _, _]) hH))) rfl ?_
       rintro _ w ⟨N_w, rfl, hV_w, hC⟩ a hA
       replace hH := HS.call (Ns1 := [_, _, _, _]) hH hC
       clear hC
       replace hA := hA.decT (by (rcases hCr ks with h | h; exact absurd (hTc ▸ seq_of (T := T.crash ks) h) hs155; exact hTc ▸ seq_of (T := T.crash ks) h))
       refine gq hA rfl rfl (q_pick_t rfl rfl) rfl fun a hA => ?_
       refine sq hA (q_pick_f rfl rfl) rfl fun a hA => ?_
       refine mv hA fun a hA => ?_
       refine gl hA rfl rfl (lo_call fn11 rfl (awake12_any (hg.mono0 hH))) rfl ?_
       rintro _ w ⟨rfl, hC⟩ a hA
       replace hH := HS.call0 hH hC
       clear hC
       refine sq hA (q_pick_t rfl rfl) rfl fun a hA => ?_
       refine asg hA fun a hA => ?_
       refine wpList_nil ?_
       refine hK55 _ _ ?_
       clear hK55
       replace hA := hA.s1 6
       refine wp_ret ?_
       refine post_ret hA (res_1 rfl hA rfl) ?_
       replace hH := hH.pick [] (Hs' := []) rfl
       exact ⟨_, rfl, rfl, hH⟩
     ·skip
      refine mv hA fun a hA => ?_
      refine gs hA rfl rfl rfl rfl fun a hA => ?_
      refine gs hA rfl rfl rfl rfl fun a hA => ?_
      refine gs hA rfl rfl rfl rfl fun a hA => ?_
      refine sq hA (q_pick_f rfl rfl) rfl fun a hA => ?_
      refine wpList_nil ?_
      refine hK17 _ _ ?_
      clear hK17
      refine cond_f hA rfl ?_
      refine wp_exit ?_
      refine then_exit ?_
      refine then_exit ?_
      refine exit_here ?_
      refine hK14 _ _ ?_
      clear hK14
      replace hA := hA.s7 11 10 9 8 7 6 2
      refine wp_seq_k fun K56 hK56 => ?_
      refine wp_seq_k fun K57 hK57 => ?_
      refine wp_region_lit ?_
      refine mv hA fun a hA => ?_
      refine sl hA (lo_call fn30 rfl (down_tm b_t T N_t hT (HS.handed (Ns1 := [_]) hH))) rfl ?_
      rintro _ w ⟨N_t, rfl, hT, hC⟩ a hA
      replace hH := HS.call (Ns1 := [_]) hH hC
      clear hC
      rw [hd] at hA
      refine mv hA fun a hA => ?_
      refine gq hA rfl rfl (q_move rfl) rfl fun a hA => ?_
      refine gl hA rfl rfl (lo_call fn22 rfl (add_vm (hg.mono0 hH) b_v b_t V T N_t N_v hV_v hT (fun _ => hW.rdy.mono (by decide)) hW.vok (Gl.ngs (Ns1 := [_, _]) hg NG.nil hH) _ [] By.nilV (HS.handed (Ns1 := [_, _]) hH))) rfl ?_
      rintro _ w ⟨N_t, N_v, rfl, hT, hV_v, hC⟩ a hA
      replace hH := HS.call (Ns1 := [_, _]) hH hC
      clear hC
      rw [show (addV T V []).2.1 = T by rw [addV_1 hvd]] at hT
      rw [show (addV T V []).2.2 = V by rw [addV_1 hvd]] at hV_v
      rw [show (addV T V []).1 = 100 by rw [addV_1 hvd]] at hA
      refine gq hA rfl rfl (q_neqI (n := 100) rfl rfl) rfl fun a hA => ?_
      replace hA := hA.decF (by exact fun h => h rfl)
      refine gq hA rfl rfl (q_move rfl) rfl fun a hA => ?_
      refine gq hA rfl rfl (q_move rfl) rfl fun a hA => ?_
      replace hH := hH.pick [1, 0, 2, 3, 4, 5, 6] (Hs' := [_, _, _, _, _, _, _]) rfl
      refine gl hA rfl rfl (lo_call fn25 rfl (gen_vm b_v b_t V N_v hV_v hW.vok (HS.handed (Ns1 := [_]) hH))) rfl ?_
      rintro _ w ⟨N_v, rfl, hV_v, hC⟩ a hA
      replace hH := HS.call (Ns1 := [_]) hH hC
      clear hC
      rw [(outs_t hvd).1] at hA
      refine gq hA rfl rfl (q_neqI (n := 0) rfl rfl) rfl fun a hA => ?_
      replace hA := hA.decF (by exact fun h => h rfl)
      refine gq hA rfl rfl (q_pick_f rfl rfl) rfl fun a hA => ?_
      refine gq hA rfl rfl (q_move rfl) rfl fun a hA => ?_
      refine gq hA rfl rfl (q_move rfl) rfl fun a hA => ?_
      refine gl hA rfl rfl (lo_call fn23 rfl (recs_vm b_v b_t V N_v hV_v hW.vok (HS.handed (Ns1 := [_]) hH))) rfl ?_
      rintro _ w ⟨v_t137, N_t137, N_dt137, N_v, rfl, hR_t137, hV_v, hC⟩ a hA
      replace hH := HS.call (Ns1 := [_]) hH hC
      clear hC
      rw [(outs_t hvd).2.2] at hR_t137
      refine gq hA rfl rfl (q_len Tryd.underlying33 rfl (RowsH.shp hR_t137)) rfl fun a hA => ?_
      refine gq hA rfl rfl (q_neqI (n := 0) rfl rfl) rfl fun a hA => ?_
      replace hA := hA.decF (by exact fun h => h rfl)
      refine gq hA rfl rfl (q_pick_f rfl rfl) rfl fun a hA => ?_
      refine sq hA (q_pick_t rfl rfl) rfl fun a hA => ?_
      refine wpList_nil ?_
      refine hK57 _ _ ?_
      clear hK57
      replace hA := hA.s7 141 11 10 9 7 6 2
      refine cond_f hA rfl ?_
      refine wp_skip ?_
      refine hK56 _ _ ?_
      clear hK56
      replace hA := hA.s6 11 10 9 7 6 2
      refine wp_seq_k fun K58 hK58 => ?_
      refine wp_region_lit ?_
      refine mv hA fun a hA => ?_
      refine sl hA (lo_bs (f := I) (e := 3) ([]) hH rfl rfl (fun w => by kernel_rfl)) rfl ?_
      clear hH; rintro v_t144 w ⟨N_t144, hO_t144, hH⟩ a hA
      refine mv hA fun a hA => ?_
      refine sl hA (lo_appm hH Tryd.underlying37 Tryd.underlying37 (.inl rfl) ti3 rfl rfl rfl hO_t144 (Rd.src (hH.rd hks)) (one_I _) (by first | omega | (simp; done) | (simp; omega)) (by first | omega | (simp; done) | (simp; omega))) rfl ?_
      clear hH; rintro v_t146 w ⟨N_t146, hO_t146, hH⟩ a hA
      replace hO_t146 : Ow I 3 v_t146 ks N_t146 := by simpa using hO_t146
      replace hH := hH.pick [4, 0, 1, 2, 3, 5, 6, 7, 8, 9] (Hs' := [_, _, _, _, _, _, _, _, _, _]) rfl
      refine sl hA (lo_call fn15 rfl (crash_tm b_t T N_t hT hW.rdy.ok (fun i => Nat.le_trans (hW.rdy.op i) (by decide)) _ _ (Own.rdM hO_t146 (Ns1 := [_]) hH 0 rfl) (HS.handed (Ns1 := [_]) hH))) rfl ?_
      rintro _ w ⟨b_x, N_t, N_x, rfl, hT, hT_x, hC⟩ a hA
      replace hH := HS.call (Ns1 := [_]) hH hC
      clear hC
      obtain ⟨hcr1, hcr2⟩ := crash_rdy hW.rdy hW.sz (by omega) ks
      obtain ⟨hcm, hco⟩ := crash_mend hcr1.ok
      obtain ⟨Tc, hTc⟩ : ∃ x, x = T.crash ks := ⟨_, rfl⟩
      rw [← hTc] at hT_x hcr1 hcr2 hcm hco
      have hSc : Sz2 Tc 30000 := hcr2.mono (by omega)
      have hdc : Tc.down = false := by rw [hTc]; rfl
      have hoc : ∀ i, (Tc.fs i).op = [] ∧ (Tc.fs i).sure = (Tc.fs i).now := by rw [hTc]; exact fun i => ⟨rfl, rfl⟩
      have hOc : VOk (opnT Tc) := opnT_vok hSc (by decide)
      obtain ⟨ho1, ho2, ho3⟩ := outs_len hOc
      replace hH := hH.pick [1, 0, 2, 3, 4, 5, 6, 7, 8, 9, 10] (Hs' := [_, _, _, _, _, _, _, _, _, _, _]) rfl
      refine sl hA (lo_call fn13 rfl (open_ok (hg.mono0 hH) b_x Tc N_x hT_x (hcr1.mono (by decide)) hdc (hSc.mono (by decide)).sz hcm (hg.ng NG.nil hH) (HS.handed (Ns1 := [_]) hH))) rfl ?_
      rintro _ w ⟨b_w, N_x, N_w, rfl, hT_x, hV_w, hC⟩ a hA
      replace hH := HS.call (Ns1 := [_]) hH hC
      clear hC
      refine mv hA fun a hA => ?_
      refine sq hA (q_extract rfl rfl) rfl fun a hA => ?_
      refine sq hA (q_extract rfl rfl) rfl fun a hA => ?_
      refine asg hA fun a hA => ?_
      refine asg hA fun a hA => ?_
      refine wpList_nil ?_
      refine hK58 _ _ ?_
      clear hK58
      replace hA := hA.s6 9 15 11 10 7 6
      refine wp_seq_k fun K59 hK59 => ?_
      refine wp_seq_k fun K60 hK60 => ?_
      refine wp_region_lit ?_
      refine mv hA fun a hA => ?_
      refine sq hA (q_neqI (n := 0) rfl rfl) rfl fun a hA => ?_
      replace hA := hA.decF (by exact fun h => h rfl)
      refine wpList_nil ?_
      refine hK60 _ _ ?_
      clear hK60
      replace hA := hA.s6 152 15 11 10 7 6
      refine cond_f hA rfl ?_
      refine wp_skip ?_
      refine hK59 _ _ ?_
      clear hK59
      replace hA := hA.s5 15 11 10 7 6
      refine wp_seq_k fun K61 hK61 => ?_
      refine wp_region_lit ?_
      refine mv hA fun a hA => ?_
      refine mv hA fun a hA => ?_
      replace hH := hH.pick [1, 7, 9, 10, 0, 2, 3, 4, 5, 6, 8, 11] (Hs' := [_, _, _, _, _, _, _, _, _, _, _, _]) rfl
      refine sl hA (lo_call fn14 rfl (same12_sh b_w b_x (opnT Tc) N_w hV_w hOc b_m g x rr text recs N_mo N_md hX_m hR_m hM (HS.handed (Ns1 := [_, _, _, _]) hH))) rfl ?_
      rintro _ w ⟨N_w, rfl, hV_w, hC⟩ a hA
      replace hH := HS.call (Ns1 := [_, _, _, _]) hH hC
      clear hC
      refine hA.spl (fun hs155 hA => ?_) (fun hs155 hA => ?_)
      ·skip
       refine mv hA fun a hA => ?_
       refine gs hA rfl rfl rfl rfl fun a hA => ?_
       refine gs hA rfl rfl rfl rfl fun a hA => ?_
       refine gsU hA rfl rfl rfl rfl fun a hA => ?_
       refine gs0U hA rfl rfl rfl fun a hA => ?_
       refine gs0U hA rfl rfl rfl fun a hA => ?_
       refine gs hA rfl rfl rfl rfl fun a hA => ?_
       refine sq hA (q_pick_t rfl rfl) rfl fun a hA => ?_
       refine mv hA fun a hA => ?_
       refine gl hA rfl rfl (lo_call fn11 rfl (awake12_any (hg.mono0 hH))) rfl ?_
       rintro _ w ⟨rfl, hC⟩ a hA
       replace hH := HS.call0 hH hC
       clear hC
       refine sq hA (q_pick_t rfl rfl) rfl fun a hA => ?_
       refine asg hA fun a hA => ?_
       refine wpList_nil ?_
       refine hK61 _ _ ?_
       clear hK61
       replace hA := hA.s1 6
       refine wp_ret ?_
       refine post_ret hA (res_1 rfl hA rfl) ?_
       replace hH := hH.pick [] (Hs' := []) rfl
       exact ⟨_, rfl, rfl, hH⟩
      ·skip
       refine mv hA fun a hA => ?_
       refine gq hA rfl rfl (q_move rfl) rfl fun a hA => ?_
       replace hH := hH.pick [5, 0, 1, 2, 3, 4, 6, 7, 8, 9, 10, 11] (Hs' := [_, _, _, _, _, _, _, _, _, _, _, _]) rfl
       refine gl hA rfl rfl (lo_call fn30 rfl (down_tm b_t T N_t hT (HS.handed (Ns1 := [_]) hH))) rfl ?_
       rintro _ w ⟨N_t, rfl, hT, hC⟩ a hA
       replace hH := HS.call (Ns1 := [_]) hH hC
       clear hC
       rw [hd] at hA
       refine gq hA rfl rfl (q_move rfl) rfl fun a hA => ?_
       refine gq hA rfl rfl (q_move rfl) rfl fun a hA => ?_
       replace hH := hH.pick [1, 10, 11, 4, 0, 2, 3, 5, 6, 7, 8, 9] (Hs' := [_, _, _, _, _, _, _, _, _, _, _, _]) rfl
       refine gl hA rfl rfl (lo_call fn14 rfl (same12_sh b_w b_x (opnT Tc) N_w hV_w hOc b_t11 gu xu ru tu su N_uo N_md hXu hRu hOu (HS.handed (Ns1 := [_, _, _, _]) hH))) rfl ?_
       rintro _ w ⟨N_w, rfl, hV_w, hC⟩ a hA
       replace hH := HS.call (Ns1 := [_, _, _, _]) hH hC
       clear hC
       replace hA := hA.decT (by (rcases hCr ks with h | h; exact absurd (hTc ▸ seq_of (T := T.crash ks) h) hs155; exact hTc ▸ seq_of (T := T.crash ks) h))
       refine gq hA rfl rfl (q_pick_t rfl rfl) rfl fun a hA => ?_
       refine sq hA (q_pick_f rfl rfl) rfl fun a hA => ?_
       refine mv hA fun a hA => ?_
       refine gl hA rfl rfl (lo_call fn11 rfl (awake12_any (hg.mono0 hH))) rfl ?_
       rintro _ w ⟨rfl, hC⟩ a hA
       replace hH := HS.call0 hH hC
       clear hC
       refine sq hA (q_pick_t rfl rfl) rfl fun a hA => ?_
       refine asg hA fun a hA => ?_
       refine wpList_nil ?_
       refine hK61 _ _ ?_
       clear hK61
       replace hA := hA.s1 6
       refine wp_ret ?_
       refine post_ret hA (res_1 rfl hA rfl) ?_
       replace hH := hH.pick [] (Hs' := []) rfl
       exact ⟨_, rfl, rfl, hH⟩

end Go.Proofs.YthhdilafnfcpbaaDoor
