/- Layer 12 (vault): the law VaultTwice. -/
import Derived.Test.YthhdilafnfcpbaaDoorJr
import Derived.Test.YthhdilafnfcpbaaDoorVz
namespace Go.Proofs.YthhdilafnfcpbaaDoor
open Go
set_option linter.unusedVariables false
set_option linter.unusedSimpArgs false
set_option maxRecDepth 100000

theorem open_y {w0 : World} {lv : Nat} (hg : Gl lv w0) (b_t : Nat) (T : Tp) (N : Hl) (hT : TM 5 76 66 b_t T N) (hB : Rdy T 4000) (hd : T.down = false) (hsz : ∀ i, (T.fs i).now.length ≤ 1000000) (hgM : NG lv (doms [N])) (hH : HS (doms [N]) w0 w0 [N]) :
    Calls Tryd.prog 13 #[(.pointer (some ⟨b_t, 0, none⟩))] w0 (Ret fun r w' => ∃ p N' Nv, r = .tuple #[p, I (mend T).1] ∧ TM 5 76 66 b_t (mend T).2 N' ∧ (((mend T).1 = 0 ∧ ∃ b_v, p = .pointer (some ⟨b_v, 0, none⟩) ∧ VM 5 32 68 b_v b_t (opnT T) Nv) ∨ ((mend T).1 ≠ 0 ∧ p = .pointer none)) ∧ HS (doms [N]) w0 w' [N', Nv]) := by
  refine (open_any hg b_t T N hT hB hd hsz hgM hH).mono fun e w' hr => ?_
  obtain ⟨r, h1, N', hT', hy, hn⟩ := hr
  by_cases hE : (mend T).1 = 0
  · obtain ⟨b_v, Nv, h2, hV, hC⟩ := hy hE
    exact ⟨r, h1, _, N', Nv, by rw [hE]; exact h2, hT', .inl ⟨hE, b_v, rfl, hV⟩, hC⟩
  · obtain ⟨h2, hC⟩ := hn hE
    exact ⟨r, h1, _, N', [], h2, hT', .inr ⟨hE, rfl⟩, hC.nilFront.pick [1, 0] (Hs' := [_, _]) rfl⟩
set_option maxHeartbeats 4000000 in
theorem vaultTwice_any {w0 : World} {lv : Nat} (hg : Gl lv w0) (v : Value) (cl : List CallE) (hcr : RdCl [] w0 v cl) (hcn : cl.length ≤ 1048576)(f1 : Int) (hf1 : f1 ≤ 9223372036854775807)(v2 : Value) (ks : List Int) (hks : Rm I [] w0 v2 ks) (hksl : ks.length ≤ 1048576)(f2 : Int) (hf2 : f2 ≤ 9223372036854775807)(v4 : Value) (ks2 : List Int) (hks2 : Rm I [] w0 v4 ks2) (hks2l : ks2.length ≤ 1048576) :
    Calls Tryd.prog 9 #[v, (I f1), v2, (I f2), v4] w0 (Ret fun r w' => r = .bool true ∧ HS [] w0 w' []) := by
 have hH := HS.start w0
 refine start (n := 166) (E := [(0, _), (1, _), (2, _), (3, _), (4, _)]) Tryd.func9 rfl rfl rfl (args_look rfl) ?_
 intro a hA
 refine wp_seq_k fun K1 hK1 => ?_
 refine wp_region_lit ?_
 refine asg hA fun a hA => ?_
 refine wpList_nil ?_
 refine hK1 _ _ ?_
 clear hK1
 refine wp_seq_k fun K2 hK2 => ?_
 refine wp_seq_k fun K3 hK3 => ?_
 refine wp_region_lit ?_
 refine mv hA fun a hA => ?_
 refine sl hA (lo_call fn10 rfl (long12_any _ _ (hH.rdCl hcr) (by first | omega | (simp; done) | (simp; omega)))) rfl ?_
 rintro _ w ⟨b_t24, rfl, hb_t24, hC⟩ a hA
 replace hH := HS.call0 hH hC
 clear hC
 refine hA.spl (fun hs24 hA => ?_) (fun hs24 hA => ?_)
 ·skip
  refine mv hA fun a hA => ?_
  refine gs hA rfl rfl rfl rfl fun a hA => ?_
  refine gs hA rfl rfl rfl rfl fun a hA => ?_
  refine gs hA rfl rfl rfl rfl fun a hA => ?_
  refine sq hA (q_pick_t rfl rfl) rfl fun a hA => ?_
  refine mv hA fun a hA => ?_
  refine gs hA rfl rfl rfl rfl fun a hA => ?_
  refine gs hA rfl rfl rfl rfl fun a hA => ?_
  refine gs hA rfl rfl rfl rfl fun a hA => ?_
  refine sq hA (q_pick_t rfl rfl) rfl fun a hA => ?_
  refine mv hA fun a hA => ?_
  refine gs hA rfl rfl rfl rfl fun a hA => ?_
  refine gs hA rfl rfl rfl rfl fun a hA => ?_
  refine sq hA (q_pick_t rfl rfl) rfl fun a hA => ?_
  refine mv hA fun a hA => ?_
  refine gs hA rfl rfl rfl rfl fun a hA => ?_
  refine gs hA rfl rfl rfl rfl fun a hA => ?_
  refine sq hA (q_pick_t rfl rfl) rfl fun a hA => ?_
  refine wpList_nil ?_
  refine hK3 _ _ ?_
  clear hK3
  replace hA := hA.s7 42 10 0 1 2 3 4
  refine cond_t hA rfl ?_
  refine wp_seq_k fun K4 hK4 => ?_
  refine wp_region_lit ?_
  refine sl hA (lo_call fn11 rfl (awake12_any (hg.mono0 hH))) rfl ?_
  rintro _ w ⟨rfl, hC⟩ a hA
  replace hH := HS.call0 hH hC
  clear hC
  refine asg hA fun a hA => ?_
  refine wpList_nil ?_
  refine hK4 _ _ ?_
  clear hK4
  replace hA := hA.s6 10 0 1 2 3 4
  refine wp_ret ?_
  refine then_ret ?_
  refine post_ret hA (res_1 rfl hA rfl) ?_
  exact ⟨_, rfl, rfl, hH⟩
 ·skip
  obtain ⟨hl40, hl5⟩ := hb_t24 (by simpa using hs24)
  refine mv hA fun a hA => ?_
  refine gq hA rfl rfl (q_move rfl) rfl fun a hA => ?_
  refine gq hA rfl rfl (q_len Tryd.underlying37 rfl (Rd.shp hks)) rfl fun a hA => ?_
  refine gq hA rfl rfl (q_gtrI (n := 10) rfl rfl) rfl fun a hA => ?_
  refine hA.spl (fun hs28 hA => ?_) (fun hs28 hA => ?_)
  ·skip
   refine sq hA (q_pick_f rfl rfl) rfl fun a hA => ?_
   refine mv hA fun a hA => ?_
   refine gs hA rfl rfl rfl rfl fun a hA => ?_
   refine gs hA rfl rfl rfl rfl fun a hA => ?_
   refine gs hA rfl rfl rfl rfl fun a hA => ?_
   refine sq hA (q_pick_t rfl rfl) rfl fun a hA => ?_
   refine mv hA fun a hA => ?_
   refine gs hA rfl rfl rfl rfl fun a hA => ?_
   refine gs hA rfl rfl rfl rfl fun a hA => ?_
   refine sq hA (q_pick_t rfl rfl) rfl fun a hA => ?_
   refine mv hA fun a hA => ?_
   refine gs hA rfl rfl rfl rfl fun a hA => ?_
   refine gs hA rfl rfl rfl rfl fun a hA => ?_
   refine sq hA (q_pick_t rfl rfl) rfl fun a hA => ?_
   refine wpList_nil ?_
   refine hK3 _ _ ?_
   clear hK3
   replace hA := hA.s7 42 10 0 1 2 3 4
   refine cond_t hA rfl ?_
   refine wp_seq_k fun K5 hK5 => ?_
   refine wp_region_lit ?_
   refine sl hA (lo_call fn11 rfl (awake12_any (hg.mono0 hH))) rfl ?_
   rintro _ w ⟨rfl, hC⟩ a hA
   replace hH := HS.call0 hH hC
   clear hC
   refine asg hA fun a hA => ?_
   refine wpList_nil ?_
   refine hK5 _ _ ?_
   clear hK5
   replace hA := hA.s6 10 0 1 2 3 4
   refine wp_ret ?_
   refine then_ret ?_
   refine post_ret hA (res_1 rfl hA rfl) ?_
   exact ⟨_, rfl, rfl, hH⟩
  ·skip
   refine sq hA (q_pick_f rfl rfl) rfl fun a hA => ?_
   refine mv hA fun a hA => ?_
   refine gq hA rfl rfl (q_move rfl) rfl fun a hA => ?_
   refine gq hA rfl rfl (q_len Tryd.underlying37 rfl (Rd.shp hks2)) rfl fun a hA => ?_
   refine gq hA rfl rfl (q_gtrI (n := 10) rfl rfl) rfl fun a hA => ?_
   refine hA.spl (fun hs33 hA => ?_) (fun hs33 hA => ?_)
   ·skip
    refine sq hA (q_pick_f rfl rfl) rfl fun a hA => ?_
    refine mv hA fun a hA => ?_
    refine gs hA rfl rfl rfl rfl fun a hA => ?_
    refine gs hA rfl rfl rfl rfl fun a hA => ?_
    refine sq hA (q_pick_t rfl rfl) rfl fun a hA => ?_
    refine mv hA fun a hA => ?_
    refine gs hA rfl rfl rfl rfl fun a hA => ?_
    refine gs hA rfl rfl rfl rfl fun a hA => ?_
    refine sq hA (q_pick_t rfl rfl) rfl fun a hA => ?_
    refine wpList_nil ?_
    refine hK3 _ _ ?_
    clear hK3
    replace hA := hA.s7 42 10 0 1 2 3 4
    refine cond_t hA rfl ?_
    refine wp_seq_k fun K6 hK6 => ?_
    refine wp_region_lit ?_
    refine sl hA (lo_call fn11 rfl (awake12_any (hg.mono0 hH))) rfl ?_
    rintro _ w ⟨rfl, hC⟩ a hA
    replace hH := HS.call0 hH hC
    clear hC
    refine asg hA fun a hA => ?_
    refine wpList_nil ?_
    refine hK6 _ _ ?_
    clear hK6
    replace hA := hA.s6 10 0 1 2 3 4
    refine wp_ret ?_
    refine then_ret ?_
    refine post_ret hA (res_1 rfl hA rfl) ?_
    exact ⟨_, rfl, rfl, hH⟩
   ·skip
    refine sq hA (q_pick_f rfl rfl) rfl fun a hA => ?_
    refine mv hA fun a hA => ?_
    refine gq hA rfl rfl (q_move rfl) rfl fun a hA => ?_
    refine gq hA rfl rfl (q_lssI (n := 0) rfl rfl) rfl fun a hA => ?_
    refine hA.spl (fun hs37 hA => ?_) (fun hs37 hA => ?_)
    ·skip
     refine sq hA (q_pick_f rfl rfl) rfl fun a hA => ?_
     refine mv hA fun a hA => ?_
     refine gs hA rfl rfl rfl rfl fun a hA => ?_
     refine gs hA rfl rfl rfl rfl fun a hA => ?_
     refine sq hA (q_pick_t rfl rfl) rfl fun a hA => ?_
     refine wpList_nil ?_
     refine hK3 _ _ ?_
     clear hK3
     replace hA := hA.s7 42 10 0 1 2 3 4
     refine cond_t hA rfl ?_
     refine wp_seq_k fun K7 hK7 => ?_
     refine wp_region_lit ?_
     refine sl hA (lo_call fn11 rfl (awake12_any (hg.mono0 hH))) rfl ?_
     rintro _ w ⟨rfl, hC⟩ a hA
     replace hH := HS.call0 hH hC
     clear hC
     refine asg hA fun a hA => ?_
     refine wpList_nil ?_
     refine hK7 _ _ ?_
     clear hK7
     replace hA := hA.s6 10 0 1 2 3 4
     refine wp_ret ?_
     refine then_ret ?_
     refine post_ret hA (res_1 rfl hA rfl) ?_
     exact ⟨_, rfl, rfl, hH⟩
    ·skip
     refine sq hA (q_pick_f rfl rfl) rfl fun a hA => ?_
     refine mv hA fun a hA => ?_
     refine gq hA rfl rfl (q_move rfl) rfl fun a hA => ?_
     refine gq hA rfl rfl (q_lssI (n := 0) rfl rfl) rfl fun a hA => ?_
     refine hA.spl (fun hs41 hA => ?_) (fun hs41 hA => ?_)
     ·skip
      refine sq hA (q_pick_f rfl rfl) rfl fun a hA => ?_
      refine wpList_nil ?_
      refine hK3 _ _ ?_
      clear hK3
      replace hA := hA.s7 42 10 0 1 2 3 4
      refine cond_t hA rfl ?_
      refine wp_seq_k fun K8 hK8 => ?_
      refine wp_region_lit ?_
      refine sl hA (lo_call fn11 rfl (awake12_any (hg.mono0 hH))) rfl ?_
      rintro _ w ⟨rfl, hC⟩ a hA
      replace hH := HS.call0 hH hC
      clear hC
      refine asg hA fun a hA => ?_
      refine wpList_nil ?_
      refine hK8 _ _ ?_
      clear hK8
      replace hA := hA.s6 10 0 1 2 3 4
      refine wp_ret ?_
      refine then_ret ?_
      refine post_ret hA (res_1 rfl hA rfl) ?_
      exact ⟨_, rfl, rfl, hH⟩
     ·skip
      refine sq hA (q_pick_f rfl rfl) rfl fun a hA => ?_
      refine wpList_nil ?_
      refine hK3 _ _ ?_
      clear hK3
      replace hA := hA.s7 42 10 0 1 2 3 4
      refine cond_f hA rfl ?_
      refine wp_skip ?_
      refine hK2 _ _ ?_
      clear hK2
      replace hA := hA.s6 10 0 1 2 3 4
      refine wp_seq_k fun K9 hK9 => ?_
      refine wp_region_lit ?_
      refine sl hA (lo_call fn12 rfl newt_tm) rfl ?_
      rintro _ w ⟨b_t, N_t, rfl, hT, hC⟩ a hA
      replace hH := HS.call0 hH hC
      clear hC
      refine asg hA fun a hA => ?_
      refine wpList_nil ?_
      refine hK9 _ _ ?_
      clear hK9
      replace hA := hA.s7 11 10 0 1 2 3 4
      refine wp_seq_k fun K10 hK10 => ?_
      refine wp_region_lit ?_
      refine mv hA fun a hA => ?_
      refine sl hA (lo_call fn13 rfl (open_i (hg.mono0 hH) b_t newT N_t hT newV Inv_new (by decide) (fun i => Nat.zero_le _) (hg.ng NG.nil hH) (HS.handed (Ns1 := [_]) hH))) rfl ?_
      rintro _ w ⟨b_v, N_t, N_v, rfl, hT, hV_v, hC⟩ a hA
      replace hH := HS.call (Ns1 := [_]) hH hC
      clear hC
      refine mv hA fun a hA => ?_
      refine sq hA (q_extract rfl rfl) rfl fun a hA => ?_
      refine sq hA (q_extract rfl rfl) rfl fun a hA => ?_
      refine asg hA fun a hA => ?_
      refine asg hA fun a hA => ?_
      refine wpList_nil ?_
      refine hK10 _ _ ?_
      clear hK10
      replace hA := hA.s9 13 12 11 10 0 1 2 3 4
      refine wp_seq_k fun K11 hK11 => ?_
      refine wp_region_lit ?_
      refine mv hA fun a hA => ?_
      refine mv hA fun a hA => ?_
      refine sl hA (lo_call fn29 rfl (fuse_tm b_t newT N_t hT f1 (HS.handed (Ns1 := [_]) hH))) rfl ?_
      rintro _ w ⟨N_t, hT, hC⟩ a hA
      replace hH := HS.call (Ns1 := [_]) hH hC
      clear hC
      rw [if_neg (by omega)] at hT
      refine wpList_nil ?_
      refine hK11 _ _ ?_
      clear hK11
      replace hA := hA.s8 13 12 11 10 0 2 3 4
      refine wp_seq_k fun K12 hK12 => ?_
      refine wp_seq_k fun K13 hK13 => ?_
      refine wp_region_lit ?_
      refine asg hA fun a hA => ?_
      refine wpList_nil ?_
      refine hK13 _ _ ?_
      clear hK13
      refine wp_block ?_
      refine wp_loop_ghost (fun gm a w => ∃ i : Nat, ∃ T : Tp, ∃ V : Vs, ∃ N_t : Hl, ∃ N_v : Hl, At 166 [(14, I i), (13, (I 0)), (12, (.pointer (some ⟨b_v, 0, none⟩))), (11, (.pointer (some ⟨b_t, 0, none⟩))), (10, (.bool false)), (0, v), (2, v2), (3, (I f2)), (4, v4)] a ∧ HS [] w0 w ([N_t, N_v]) ∧ (i ≤ cl.length) ∧ (Wk T V i) ∧ (TM 5 76 66 b_t T N_t) ∧ (VM 5 32 68 b_v b_t V N_v) ∧ gm = cl.length - i) (cl.length - (0)) ⟨0, _, newV, N_t, N_v, hA.sub ⟨rfl, rfl, rfl, rfl, rfl, rfl, rfl, rfl, rfl, trivial⟩, hH, by omega, by exact Wk.new hf1, by exact hT, by exact hV_v, rfl⟩ ?_
      clear hA hH
      rintro gm a w ⟨i, T, V, N_t, N_v, hA, hH, hi, hW, hT, hV_v, rfl⟩
      refine wp_seq_k fun K14 hK14 => ?_
      refine wp_seq_k fun K15 hK15 => ?_
      refine wp_region_lit ?_
      refine mv hA fun a hA => ?_
      refine mv hA fun a hA => ?_
      refine sq hA (q_len Tryd.underlying22 rfl (Rd.shp hcr.1)) rfl fun a hA => ?_
      refine sq hA (q_lssI rfl rfl) rfl fun a hA => ?_
      refine wpList_nil ?_
      refine hK15 _ _ ?_
      clear hK15
      refine cond_d hA rfl (fun hc56 => ?_) (fun hc56 => ?_)
      ·skip
       obtain ⟨e, hem, hei, hE3, hE0, hE1, hE2, he⟩ := hcr.get (i := i) (by omega)
       have he5 := hl5 e hem
       refine wp_skip ?_
       refine hK14 _ _ ?_
       clear hK14
       refine wp_seq_k fun K16 hK16 => ?_
       refine wp_block ?_
       refine wp_seq_k fun K17 hK17 => ?_
       refine wp_seq_k fun K18 hK18 => ?_
       refine wp_region_lit ?_
       refine mv hA fun a hA => ?_
       refine mv hA fun a hA => ?_
       refine sq hA (q_idxk (i) Tryd.underlying22 ti39 rfl rfl (by first | omega | rfl) (Rd.shp hcr.1) (by first | omega | (simp; done) | (simp; omega) | (rw [List.length_map]; assumption) | assumption | rfl | (simp [*]; done) | (simp [*]; omega))) rfl fun a hA => ?_
       refine sq hA (q_fldE 0 Tryd.underlying39 rfl rfl ti3 rfl) rfl fun a hA => ?_
       refine sq hA (q_loadR Tryd.underlying3 rfl rfl (hH.rd hcr.1) (by omega) hE0) rfl fun a hA => ?_
       refine sq hA (q_eqlI (n := 0) rfl rfl) rfl fun a hA => ?_
       refine wpList_nil ?_
       refine hK18 _ _ ?_
       clear hK18
       refine cond_d hA rfl (fun hc64 => ?_) (fun hc64 => ?_)
       ·skip
        refine wp_region_lit ?_
        refine mv hA fun a hA => ?_
        refine mv hA fun a hA => ?_
        refine mv hA fun a hA => ?_
        refine sq hA (q_idxk (i) Tryd.underlying22 ti39 rfl rfl (by first | omega | rfl) (Rd.shp hcr.1) (by first | omega | (simp; done) | (simp; omega) | (rw [List.length_map]; assumption) | assumption | rfl | (simp [*]; done) | (simp [*]; omega))) rfl fun a hA => ?_
        refine sq hA (q_fldE 1 Tryd.underlying39 rfl rfl ti32 rfl) rfl fun a hA => ?_
        refine sq hA (q_loadR Tryd.underlying32 rfl rfl (hH.rd hcr.1) (by omega) hE1) rfl fun a hA => ?_
        refine sl hA (lo_call fn18 rfl (lown12_any _ _ (hH.rd he.1) (by first | omega | (simp; done) | (simp; omega)))) rfl ?_
        rintro _ w ⟨v_t71, N_t71, rfl, hO_t71, hC⟩ a hA
        replace hH := HS.call0 hH hC
        clear hC
        replace hH := hH.pick [1, 2, 0] (Hs' := [_, _, _]) rfl
        refine sl hA (lo_call fn22 rfl (add_vm (hg.mono0 hH) b_v b_t V T N_t N_v hV_v hT (fun _ => hW.rdy.mono (by decide)) hW.vok (Gl.ngs (Ns1 := [_, _]) hg NG.nil hH) _ _ (Own.rdM hO_t71 (Ns1 := [_, _]) hH 0 rfl) (HS.handed (Ns1 := [_, _]) hH))) rfl ?_
        rintro _ w ⟨N_t, N_v, rfl, hT, hV_v, hC⟩ a hA
        replace hH := HS.call (Ns1 := [_, _]) hH hC
        clear hC
        have hW1 := hW.add he5.1 (by omega)
        obtain ⟨T1, hT1⟩ : ∃ x, x = (addV T V e.b).2.1 := ⟨_, rfl⟩
        obtain ⟨V1, hV1⟩ : ∃ x, x = (addV T V e.b).2.2 := ⟨_, rfl⟩
        rw [← hT1] at hT hW1
        rw [← hV1] at hV_v hW1
        refine wpList_nil ?_
        refine hK17 _ _ ?_
        clear hK17
        replace hA := hA.sub (E' := [(71, _), (70, _), (69, _), (68, _), (67, _), (66, _), (65, _), (64, _), (63, _), (62, _), (61, _), (60, _), (59, _), (56, _), (55, _), (54, _), (53, _), (14, _), (13, _), (12, _), (11, _), (10, _), (0, _), (2, _), (3, _), (4, _)]) ⟨rfl, rfl, rfl, rfl, rfl, rfl, rfl, rfl, rfl, rfl, rfl, rfl, rfl, rfl, rfl, rfl, rfl, rfl, rfl, rfl, rfl, rfl, rfl, rfl, rfl, rfl, trivial⟩
        refine wp_seq_k fun K19 hK19 => ?_
        refine wp_region_lit ?_
        refine mv hA fun a hA => ?_
        refine mv hA fun a hA => ?_
        refine sq hA (q_idxk (i) Tryd.underlying22 ti39 rfl rfl (by first | omega | rfl) (Rd.shp hcr.1) (by first | omega | (simp; done) | (simp; omega) | (rw [List.length_map]; assumption) | assumption | rfl | (simp [*]; done) | (simp [*]; omega))) rfl fun a hA => ?_
        refine sq hA (q_fldE 0 Tryd.underlying39 rfl rfl ti3 rfl) rfl fun a hA => ?_
        refine sq hA (q_loadR Tryd.underlying3 rfl rfl (hH.rd hcr.1) (by omega) hE0) rfl fun a hA => ?_
        refine sq hA (q_eqlI (n := 1) rfl rfl) rfl fun a hA => ?_
        refine wpList_nil ?_
        refine hK19 _ _ ?_
        clear hK19
        refine cond_d hA rfl (fun hnn => absurd hnn ((by omega))) (fun _ => ?_)
        refine wp_skip ?_
        refine block_normal ?_
        refine hK16 _ _ ?_
        clear hK16
        refine wp_region_lit ?_
        refine mv hA fun a hA => ?_
        refine sq hA (q_addI (n := 1) rfl rfl (by omega)) rfl fun a hA => ?_
        refine asg hA fun a hA => ?_
        refine wpList_nil ?_
        replace hH := hH.pick [0, 1] (Hs' := [_, _]) rfl
        exact ⟨_, by omega, i + 1, T1, V1, N_t, N_v, hA.sub ⟨rfl, rfl, rfl, rfl, rfl, rfl, rfl, rfl, rfl, trivial⟩, hH, by omega, by first | exact hW1 | exact hW.mono (Nat.le_succ _), by exact hT, by exact hV_v, rfl⟩
       ·skip
        refine wp_skip ?_
        refine hK17 _ _ ?_
        clear hK17
        refine wp_seq_k fun K20 hK20 => ?_
        refine wp_region_lit ?_
        refine mv hA fun a hA => ?_
        refine mv hA fun a hA => ?_
        refine sq hA (q_idxk (i) Tryd.underlying22 ti39 rfl rfl (by first | omega | rfl) (Rd.shp hcr.1) (by first | omega | (simp; done) | (simp; omega) | (rw [List.length_map]; assumption) | assumption | rfl | (simp [*]; done) | (simp [*]; omega))) rfl fun a hA => ?_
        refine sq hA (q_fldE 0 Tryd.underlying39 rfl rfl ti3 rfl) rfl fun a hA => ?_
        refine sq hA (q_loadR Tryd.underlying3 rfl rfl (hH.rd hcr.1) (by omega) hE0) rfl fun a hA => ?_
        refine sq hA (q_eqlI (n := 1) rfl rfl) rfl fun a hA => ?_
        refine wpList_nil ?_
        refine hK20 _ _ ?_
        clear hK20
        refine cond_d hA rfl (fun hc78 => ?_) (fun hc78 => ?_)
        ·skip
         refine wp_region_lit ?_
         refine mv hA fun a hA => ?_
         refine mv hA fun a hA => ?_
         refine mv hA fun a hA => ?_
         refine sq hA (q_idxk (i) Tryd.underlying22 ti39 rfl rfl (by first | omega | rfl) (Rd.shp hcr.1) (by first | omega | (simp; done) | (simp; omega) | (rw [List.length_map]; assumption) | assumption | rfl | (simp [*]; done) | (simp [*]; omega))) rfl fun a hA => ?_
         refine sq hA (q_fldE 1 Tryd.underlying39 rfl rfl ti32 rfl) rfl fun a hA => ?_
         refine sq hA (q_loadR Tryd.underlying32 rfl rfl (hH.rd hcr.1) (by omega) hE1) rfl fun a hA => ?_
         refine sl hA (lo_call fn18 rfl (lown12_any _ _ (hH.rd he.1) (by first | omega | (simp; done) | (simp; omega)))) rfl ?_
         rintro _ w ⟨v_t85, N_t85, rfl, hO_t85, hC⟩ a hA
         replace hH := HS.call0 hH hC
         clear hC
         replace hH := hH.pick [1, 2, 0] (Hs' := [_, _, _]) rfl
         refine sl hA (lo_call fn24 rfl (save_vm (hg.mono0 hH) b_v b_t V T N_t N_v hV_v hT (fun _ => hW.rdy.mono (by decide)) hW.vok (Gl.ngs (Ns1 := [_, _]) hg NG.nil hH) _ _ (Own.rdM hO_t85 (Ns1 := [_, _]) hH 0 rfl) (HS.handed (Ns1 := [_, _]) hH))) rfl ?_
         rintro _ w ⟨N_t, N_v, rfl, hT, hV_v, hC⟩ a hA
         replace hH := HS.call (Ns1 := [_, _]) hH hC
         clear hC
         have hW1 := hW.save he5.1 (by omega)
         obtain ⟨T1, hT1⟩ : ∃ x, x = (saveV T V e.b).2.1 := ⟨_, rfl⟩
         obtain ⟨V1, hV1⟩ : ∃ x, x = (saveV T V e.b).2.2 := ⟨_, rfl⟩
         rw [← hT1] at hT hW1
         rw [← hV1] at hV_v hW1
         refine wpList_nil ?_
         refine block_normal ?_
         refine hK16 _ _ ?_
         clear hK16
         replace hA := hA.sub (E' := [(85, _), (84, _), (83, _), (82, _), (81, _), (80, _), (79, _), (78, _), (77, _), (76, _), (75, _), (74, _), (73, _), (64, _), (63, _), (62, _), (61, _), (60, _), (59, _), (56, _), (55, _), (54, _), (53, _), (14, _), (13, _), (12, _), (11, _), (10, _), (0, _), (2, _), (3, _), (4, _)]) ⟨rfl, rfl, rfl, rfl, rfl, rfl, rfl, rfl, rfl, rfl, rfl, rfl, rfl, rfl, rfl, rfl, rfl, rfl, rfl, rfl, rfl, rfl, rfl, rfl, rfl, rfl, rfl, rfl, rfl, rfl, rfl, rfl, trivial⟩
         refine wp_region_lit ?_
         refine mv hA fun a hA => ?_
         refine sq hA (q_addI (n := 1) rfl rfl (by omega)) rfl fun a hA => ?_
         refine asg hA fun a hA => ?_
         refine wpList_nil ?_
         replace hH := hH.pick [0, 1] (Hs' := [_, _]) rfl
         exact ⟨_, by omega, i + 1, T1, V1, N_t, N_v, hA.sub ⟨rfl, rfl, rfl, rfl, rfl, rfl, rfl, rfl, rfl, trivial⟩, hH, by omega, by first | exact hW1 | exact hW.mono (Nat.le_succ _), by exact hT, by exact hV_v, rfl⟩
        ·skip
         refine wp_skip ?_
         refine block_normal ?_
         refine hK16 _ _ ?_
         clear hK16
         refine wp_region_lit ?_
         refine mv hA fun a hA => ?_
         refine sq hA (q_addI (n := 1) rfl rfl (by omega)) rfl fun a hA => ?_
         refine asg hA fun a hA => ?_
         refine wpList_nil ?_
         exact ⟨_, by omega, i + 1, T, V, N_t, N_v, hA.sub ⟨rfl, rfl, rfl, rfl, rfl, rfl, rfl, rfl, rfl, trivial⟩, hH, by omega, by first | exact hW1 | exact hW.mono (Nat.le_succ _), by exact hT, by exact hV_v, rfl⟩
      ·skip
       refine wp_exit ?_
       refine then_exit ?_
       refine then_exit ?_
       refine exit_here ?_
       refine hK12 _ _ ?_
       clear hK12
       replace hA := hA.s6 13 11 10 2 3 4
       refine wp_seq_k fun K21 hK21 => ?_
       refine wp_region_lit ?_
       refine mv hA fun a hA => ?_
       refine sl hA (lo_bs (f := I) (e := 3) ([]) hH rfl rfl (fun w => by kernel_rfl)) rfl ?_
       clear hH; rintro v_t88 w ⟨N_t88, hO_t88, hH⟩ a hA
       refine mv hA fun a hA => ?_
       refine sl hA (lo_appm hH Tryd.underlying37 Tryd.underlying37 (.inl rfl) ti3 rfl rfl rfl hO_t88 (Rd.src (hH.rd hks)) (one_I _) (by first | omega | (simp; done) | (simp; omega)) (by first | omega | (simp; done) | (simp; omega))) rfl ?_
       clear hH; rintro v_t90 w ⟨N_t90, hO_t90, hH⟩ a hA
       replace hO_t90 : Ow I 3 v_t90 ks N_t90 := by simpa using hO_t90
       replace hH := hH.pick [1, 0, 2] (Hs' := [_, _, _]) rfl
       refine sl hA (lo_call fn15 rfl (crash_tm b_t T N_t hT hW.rdy.ok (fun i => Nat.le_trans (hW.rdy.op i) (by decide)) _ _ (Own.rdM hO_t90 (Ns1 := [_]) hH 0 rfl) (HS.handed (Ns1 := [_]) hH))) rfl ?_
       rintro _ w ⟨b_x, N_t, N_x, rfl, hT, hT_x, hC⟩ a hA
       replace hH := HS.call (Ns1 := [_]) hH hC
       clear hC
       obtain ⟨hcr1, hcr2⟩ := crash_rdy hW.rdy hW.sz (by omega) ks
       obtain ⟨hcm, hco⟩ := crash_mend hcr1.ok
       obtain ⟨Tc, hTc⟩ : ∃ x, x = T.crash ks := ⟨_, rfl⟩
       rw [← hTc] at hT_x hcr1 hcr2 hcm hco
       have hSc : Sz2 Tc 30000 := hcr2.mono (by omega)
       have hdc : Tc.down = false := by rw [hTc]; rfl
       have hoc : ∀ i, (Tc.fs i).op = [] ∧ (Tc.fs i).sure = (Tc.fs i).now := by rw [hTc]; exact fun i => ⟨rfl, rfl⟩
       have hOc : VOk (opnT Tc) := opnT_vok hSc (by decide)
       obtain ⟨ho1, ho2, ho3⟩ := outs_len hOc
       refine asg hA fun a hA => ?_
       refine wpList_nil ?_
       refine hK21 _ _ ?_
       clear hK21
       replace hA := hA.s7 15 13 11 10 2 3 4
       refine wp_seq_k fun K22 hK22 => ?_
       refine wp_region_lit ?_
       refine mv hA fun a hA => ?_
       refine sl hA (lo_bs (f := I) (e := 3) ([]) hH rfl rfl (fun w => by kernel_rfl)) rfl ?_
       clear hH; rintro v_t93 w ⟨N_t93, hO_t93, hH⟩ a hA
       refine mv hA fun a hA => ?_
       refine sl hA (lo_appm hH Tryd.underlying37 Tryd.underlying37 (.inl rfl) ti3 rfl rfl rfl hO_t93 (Rd.src (hH.rd hks)) (one_I _) (by first | omega | (simp; done) | (simp; omega)) (by first | omega | (simp; done) | (simp; omega))) rfl ?_
       clear hH; rintro v_t95 w ⟨N_t95, hO_t95, hH⟩ a hA
       replace hO_t95 : Ow I 3 v_t95 ks N_t95 := by simpa using hO_t95
       replace hH := hH.pick [1, 0, 2, 3, 4] (Hs' := [_, _, _, _, _]) rfl
       refine sl hA (lo_call fn15 rfl (crash_tm b_t T N_t hT hW.rdy.ok (fun i => Nat.le_trans (hW.rdy.op i) (by decide)) _ _ (Own.rdM hO_t95 (Ns1 := [_]) hH 0 rfl) (HS.handed (Ns1 := [_]) hH))) rfl ?_
       rintro _ w ⟨b_y, N_t, N_y, rfl, hT, hT_y, hC⟩ a hA
       replace hH := HS.call (Ns1 := [_]) hH hC
       clear hC
       rw [← hTc] at hT_y
       refine asg hA fun a hA => ?_
       refine wpList_nil ?_
       refine hK22 _ _ ?_
       clear hK22
       replace hA := hA.s6 16 15 13 10 3 4
       refine wp_seq_k fun K23 hK23 => ?_
       refine wp_region_lit ?_
       refine mv hA fun a hA => ?_
       replace hH := hH.pick [3, 0, 1, 2, 4, 5] (Hs' := [_, _, _, _, _, _]) rfl
       refine sl hA (lo_call fn13 rfl (open_ok (hg.mono0 hH) b_x Tc N_x hT_x (hcr1.mono (by decide)) hdc (hSc.mono (by decide)).sz hcm (hg.ng NG.nil hH) (HS.handed (Ns1 := [_]) hH))) rfl ?_
       rintro _ w ⟨b_a, N_x, N_a, rfl, hT_x, hV_a, hC⟩ a hA
       replace hH := HS.call (Ns1 := [_]) hH hC
       clear hC
       refine mv hA fun a hA => ?_
       refine sq hA (q_extract rfl rfl) rfl fun a hA => ?_
       refine sq hA (q_extract rfl rfl) rfl fun a hA => ?_
       refine asg hA fun a hA => ?_
       refine asg hA fun a hA => ?_
       refine wpList_nil ?_
       refine hK23 _ _ ?_
       clear hK23
       replace hA := hA.s7 18 17 16 13 10 3 4
       refine wp_seq_k fun K24 hK24 => ?_
       refine wp_region_lit ?_
       refine mv hA fun a hA => ?_
       refine mv hA fun a hA => ?_
       replace hH := hH.pick [3, 0, 1, 2, 4, 5, 6] (Hs' := [_, _, _, _, _, _, _]) rfl
       refine sl hA (lo_call fn29 rfl (fuse_tm b_y Tc N_y hT_y f2 (HS.handed (Ns1 := [_]) hH))) rfl ?_
       rintro _ w ⟨N_y, hT_y, hC⟩ a hA
       replace hH := HS.call (Ns1 := [_]) hH hC
       clear hC
       rw [if_neg (by omega)] at hT_y
       obtain ⟨Ty, hTy⟩ : ∃ x, x = (⟨Tc.fs, f2, Tc.down⟩ : Tp) := ⟨_, rfl⟩
       rw [← hTy] at hT_y
       have hRy : Rdy Ty 0 := by rw [hTy]; exact hcr1.fuse (by omega) _
       have hSy : Sz2 Ty 30000 := by rw [hTy]; exact hSc
       have hdy : Ty.down = false := by rw [hTy]; exact hdc
       have hoy : ∀ i, (Ty.fs i).op = [] ∧ (Ty.fs i).sure = (Ty.fs i).now := by rw [hTy]; exact hoc
       have hfy : opnT Ty = opnT Tc := by rw [hTy]; rfl
       have hmy := mend_any hdy hoy hRy.ok
       have hty := twice hdy hoy hRy.ok ks2
       refine wpList_nil ?_
       refine hK24 _ _ ?_
       clear hK24
       replace hA := hA.s6 18 17 16 13 10 4
       refine wp_seq_k fun K25 hK25 => ?_
       refine wp_region_lit ?_
       refine mv hA fun a hA => ?_
       refine sl hA (lo_call fn13 rfl (open_y (hg.mono0 hH) b_y Ty N_y hT_y (hRy.mono (by decide)) hdy (hSy.mono (by decide)).sz (hg.ng NG.nil hH) (HS.handed (Ns1 := [_]) hH))) rfl ?_
       rintro _ w ⟨pb, N_y, N_b, rfl, hT_y, hE, hC⟩ a hA
       replace hH := HS.call (Ns1 := [_]) hH hC
       clear hC
       rcases hmy.1 with ⟨hm1, hm2⟩ | ⟨hm1, hm2⟩
       ·skip
        rw [hm1] at hA
        obtain ⟨b_b, rfl, hV_b⟩ : ∃ b_b, pb = .pointer (some ⟨b_b, 0, none⟩) ∧ VM 5 32 68 b_b b_y (opnT Ty) N_b := by
          rcases hE with ⟨_, h⟩ | ⟨h, _⟩
          · exact h
          · exact absurd hm1 h
        refine mv hA fun a hA => ?_
        refine sq hA (q_extract rfl rfl) rfl fun a hA => ?_
        refine sq hA (q_extract rfl rfl) rfl fun a hA => ?_
        refine asg hA fun a hA => ?_
        refine asg hA fun a hA => ?_
        refine wpList_nil ?_
        refine hK25 _ _ ?_
        clear hK25
        replace hA := hA.s8 20 19 18 17 16 13 10 4
        refine wp_seq_k fun K26 hK26 => ?_
        refine wp_seq_k fun K27 hK27 => ?_
        refine wp_region_lit ?_
        refine mv hA fun a hA => ?_
        refine sq hA (q_neqI (n := 0) rfl rfl) rfl fun a hA => ?_
        replace hA := hA.decF (by exact fun h => h rfl)
        refine mv hA fun a hA => ?_
        refine gq hA rfl rfl (q_move rfl) rfl fun a hA => ?_
        refine gq hA rfl rfl (q_neqI (n := 0) rfl rfl) rfl fun a hA => ?_
        replace hA := hA.decF (by exact fun h => h rfl)
        refine sq hA (q_pick_f rfl rfl) rfl fun a hA => ?_
        refine mv hA fun a hA => ?_
        refine gq hA rfl rfl (q_move rfl) rfl fun a hA => ?_
        refine gq hA rfl rfl (q_eqlI (n := 100) rfl rfl) rfl fun a hA => ?_
        replace hA := hA.decF (by decide)
        refine gq hA rfl rfl (q_move rfl) rfl fun a hA => ?_
        refine gl hA rfl rfl (lo_call fn30 rfl (down_tm b_y (mend Ty).2 N_y hT_y (HS.handed (Ns1 := [_]) hH))) rfl ?_
        rintro _ w ⟨N_y, rfl, hT_y, hC⟩ a hA
        replace hH := HS.call (Ns1 := [_]) hH hC
        clear hC
        rw [hm2] at hA
        refine gq hA rfl rfl (q_neqB Tryd.underlying4 rfl rfl) rfl fun a hA => ?_
        replace hA := hA.decF (by exact fun h => h rfl)
        refine sq hA (q_pick_f rfl rfl) rfl fun a hA => ?_
        refine mv hA fun a hA => ?_
        refine gq hA rfl rfl (q_move rfl) rfl fun a hA => ?_
        refine gq hA rfl rfl (q_neqI (n := 0) rfl rfl) rfl fun a hA => ?_
        replace hA := hA.decF (by exact fun h => h rfl)
        refine gq hA rfl rfl (q_move rfl) rfl fun a hA => ?_
        refine gs hA rfl rfl rfl rfl fun a hA => ?_
        refine gs hA rfl rfl rfl rfl fun a hA => ?_
        refine gq hA rfl rfl (q_pick_f rfl rfl) rfl fun a hA => ?_
        refine sq hA (q_pick_f rfl rfl) rfl fun a hA => ?_
        refine wpList_nil ?_
        refine hK27 _ _ ?_
        clear hK27
        replace hA := hA.s5 130 17 16 10 4
        refine cond_f hA rfl ?_
        refine wp_skip ?_
        refine hK26 _ _ ?_
        clear hK26
        replace hA := hA.s4 17 16 10 4
        refine wp_seq_k fun K28 hK28 => ?_
        refine wp_region_lit ?_
        refine mv hA fun a hA => ?_
        refine sl hA (lo_bs (f := I) (e := 3) ([]) hH rfl rfl (fun w => by kernel_rfl)) rfl ?_
        clear hH; rintro v_t133 w ⟨N_t133, hO_t133, hH⟩ a hA
        refine mv hA fun a hA => ?_
        refine sl hA (lo_appm hH Tryd.underlying37 Tryd.underlying37 (.inl rfl) ti3 rfl rfl rfl hO_t133 (Rd.src (hH.rd hks2)) (one_I _) (by first | omega | (simp; done) | (simp; omega)) (by first | omega | (simp; done) | (simp; omega))) rfl ?_
        clear hH; rintro v_t135 w ⟨N_t135, hO_t135, hH⟩ a hA
        replace hO_t135 : Ow I 3 v_t135 ks2 N_t135 := by simpa using hO_t135
        replace hH := hH.pick [1, 0, 2, 3, 4, 5, 6, 7, 8] (Hs' := [_, _, _, _, _, _, _, _, _]) rfl
        refine sl hA (lo_call fn15 rfl (crash_tm b_y (mend Ty).2 N_y hT_y hRy.mend.ok (fun i => Nat.le_trans (hRy.mend.op i) (by decide)) _ _ (Own.rdM hO_t135 (Ns1 := [_]) hH 0 rfl) (HS.handed (Ns1 := [_]) hH))) rfl ?_
        rintro _ w ⟨b_z, N_y, N_z, rfl, hT_y, hT_z, hC⟩ a hA
        replace hH := HS.call (Ns1 := [_]) hH hC
        clear hC
        obtain ⟨hcz1, hcz2⟩ := crash_rdy hRy.mend hSy.mend (by decide) ks2
        obtain ⟨hzm, hzo⟩ := crash_mend hcz1.ok
        rw [hfy] at hty
        replace hH := hH.pick [1, 0, 2, 3, 4, 5, 6, 7, 8, 9] (Hs' := [_, _, _, _, _, _, _, _, _, _]) rfl
        refine sl hA (lo_call fn13 rfl (open_ok (hg.mono0 hH) b_z ((mend Ty).2.crash ks2) N_z hT_z (hcz1.mono (by decide)) rfl (hcz2.mono (by decide)).sz hzm (hg.ng NG.nil hH) (HS.handed (Ns1 := [_]) hH))) rfl ?_
        rintro _ w ⟨b_c, N_z, N_c, rfl, hT_z, hV_c, hC⟩ a hA
        replace hH := HS.call (Ns1 := [_]) hH hC
        clear hC
        rw [hty] at hV_c
        refine mv hA fun a hA => ?_
        refine sq hA (q_extract rfl rfl) rfl fun a hA => ?_
        refine sq hA (q_extract rfl rfl) rfl fun a hA => ?_
        refine asg hA fun a hA => ?_
        refine asg hA fun a hA => ?_
        refine wpList_nil ?_
        refine hK28 _ _ ?_
        clear hK28
        replace hA := hA.s4 22 21 17 10
        refine wp_seq_k fun K29 hK29 => ?_
        refine wp_region_lit ?_
        refine mv hA fun a hA => ?_
        refine sq hA (q_eqlI (n := 0) rfl rfl) rfl fun a hA => ?_
        replace hA := hA.decT (by first | rfl | omega | assumption | (simp; done) | (simp [*]; done))
        refine mv hA fun a hA => ?_
        refine gq hA rfl rfl (q_move rfl) rfl fun a hA => ?_
        replace hH := hH.pick [1, 0, 2, 3, 4, 5, 6, 7, 8, 9, 10] (Hs' := [_, _, _, _, _, _, _, _, _, _, _]) rfl
        refine gl hA rfl rfl (lo_call fn25 rfl (gen_vm b_c b_z (opnT Tc) N_c hV_c hOc (HS.handed (Ns1 := [_]) hH))) rfl ?_
        rintro _ w ⟨N_c, rfl, hV_c, hC⟩ a hA
        replace hH := HS.call (Ns1 := [_]) hH hC
        clear hC
        refine gq hA rfl rfl (q_move rfl) rfl fun a hA => ?_
        replace hH := hH.pick [6, 0, 1, 2, 3, 4, 5, 7, 8, 9, 10] (Hs' := [_, _, _, _, _, _, _, _, _, _, _]) rfl
        refine gl hA rfl rfl (lo_call fn25 rfl (gen_vm b_a b_x (opnT Tc) N_a hV_a hOc (HS.handed (Ns1 := [_]) hH))) rfl ?_
        rintro _ w ⟨N_a, rfl, hV_a, hC⟩ a hA
        replace hH := HS.call (Ns1 := [_]) hH hC
        clear hC
        refine gq hA rfl rfl (q_eqlI rfl rfl) rfl fun a hA => ?_
        refine sq hA (q_pick_t rfl rfl) rfl fun a hA => ?_
        replace hA := hA.decT (by first | rfl | omega | assumption | (simp; done) | (simp [*]; done))
        refine mv hA fun a hA => ?_
        refine gq hA rfl rfl (q_move rfl) rfl fun a hA => ?_
        replace hH := hH.pick [1, 0, 2, 3, 4, 5, 6, 7, 8, 9, 10] (Hs' := [_, _, _, _, _, _, _, _, _, _, _]) rfl
        refine gl hA rfl rfl (lo_call fn26 rfl (text_vm b_c b_z (opnT Tc) N_c hV_c hOc (HS.handed (Ns1 := [_]) hH))) rfl ?_
        rintro _ w ⟨v_t151, N_t151, N_c, rfl, hO_t151, hV_c, hC⟩ a hA
        replace hH := HS.call (Ns1 := [_]) hH hC
        clear hC
        refine gq hA rfl rfl (q_move rfl) rfl fun a hA => ?_
        replace hH := hH.pick [2, 0, 1, 3, 4, 5, 6, 7, 8, 9, 10, 11] (Hs' := [_, _, _, _, _, _, _, _, _, _, _, _]) rfl
        refine gl hA rfl rfl (lo_call fn26 rfl (text_vm b_a b_x (opnT Tc) N_a hV_a hOc (HS.handed (Ns1 := [_]) hH))) rfl ?_
        rintro _ w ⟨v_t153, N_t153, N_a, rfl, hO_t153, hV_a, hC⟩ a hA
        replace hH := HS.call (Ns1 := [_]) hH hC
        clear hC
        refine gl hA rfl rfl (lo_call fn21 rfl (same_any _ _ _ _ (Own.rd0 hO_t151 hH 3 rfl) (Own.rd0 hO_t153 hH 1 rfl) (by first | omega | (simp; done) | (simp; omega)) (by first | omega | (simp; done) | (simp; omega)))) rfl ?_
        rintro _ w ⟨rfl, hC⟩ a hA
        replace hH := HS.call0 hH hC
        clear hC
        refine sq hA (q_pick_t rfl rfl) rfl fun a hA => ?_
        replace hA := hA.decT (by first | rfl | omega | assumption | (simp; done) | (simp [*]; done))
        refine mv hA fun a hA => ?_
        refine gq hA rfl rfl (q_move rfl) rfl fun a hA => ?_
        replace hH := hH.pick [2, 0, 1, 3, 4, 5, 6, 7, 8, 9, 10, 11, 12] (Hs' := [_, _, _, _, _, _, _, _, _, _, _, _, _]) rfl
        refine gl hA rfl rfl (lo_call fn23 rfl (recs_vm b_c b_z (opnT Tc) N_c hV_c hOc (HS.handed (Ns1 := [_]) hH))) rfl ?_
        rintro _ w ⟨v_t158, N_t158, N_dt158, N_c, rfl, hR_t158, hV_c, hC⟩ a hA
        replace hH := HS.call (Ns1 := [_]) hH hC
        clear hC
        refine gq hA rfl rfl (q_move rfl) rfl fun a hA => ?_
        replace hH := hH.pick [3, 0, 1, 2, 4, 5, 6, 7, 8, 9, 10, 11, 12, 13, 14] (Hs' := [_, _, _, _, _, _, _, _, _, _, _, _, _, _, _]) rfl
        refine gl hA rfl rfl (lo_call fn23 rfl (recs_vm b_a b_x (opnT Tc) N_a hV_a hOc (HS.handed (Ns1 := [_]) hH))) rfl ?_
        rintro _ w ⟨v_t160, N_t160, N_dt160, N_a, rfl, hR_t160, hV_a, hC⟩ a hA
        replace hH := HS.call (Ns1 := [_]) hH hC
        clear hC
        refine gl hA rfl rfl (lo_call fn31 rfl (sameR_any _ _ _ _ (RowsH.rdR hR_t158 hH 4 5 rfl rfl) (RowsH.rdR hR_t160 hH 1 2 rfl rfl) (by first | omega | (simp; done) | (simp; omega)) (by first | omega | (simp; done) | (simp; omega)) (by first | assumption | (simp; done) | (intro y hy; simp at hy; subst hy; decide)) (by first | assumption | (simp; done) | (intro y hy; simp at hy; subst hy; decide)))) rfl ?_
        rintro _ w ⟨rfl, hC⟩ a hA
        replace hH := HS.call0 hH hC
        clear hC
        refine sq hA (q_pick_t rfl rfl) rfl fun a hA => ?_
        replace hA := hA.decT (by first | rfl | omega | assumption | (simp; done) | (simp [*]; done))
        refine mv hA fun a hA => ?_
        refine gl hA rfl rfl (lo_call fn11 rfl (awake12_any (hg.mono0 hH))) rfl ?_
        rintro _ w ⟨rfl, hC⟩ a hA
        replace hH := HS.call0 hH hC
        clear hC
        refine sq hA (q_pick_t rfl rfl) rfl fun a hA => ?_
        refine asg hA fun a hA => ?_
        refine wpList_nil ?_
        refine hK29 _ _ ?_
        clear hK29
        replace hA := hA.s1 10
        refine wp_ret ?_
        refine post_ret hA (res_1 rfl hA rfl) ?_
        replace hH := hH.pick [] (Hs' := []) rfl
        exact ⟨_, rfl, rfl, hH⟩
       ·skip
        rw [hm1] at hA
        obtain rfl : pb = .pointer none := by
          rcases hE with ⟨h, _⟩ | ⟨_, h⟩
          · rw [hm1] at h; cases h
          · exact h
        refine mv hA fun a hA => ?_
        refine sq hA (q_extract rfl rfl) rfl fun a hA => ?_
        refine sq hA (q_extract rfl rfl) rfl fun a hA => ?_
        refine asg hA fun a hA => ?_
        refine asg hA fun a hA => ?_
        refine wpList_nil ?_
        refine hK25 _ _ ?_
        clear hK25
        replace hA := hA.s8 20 19 18 17 16 13 10 4
        refine wp_seq_k fun K30 hK30 => ?_
        refine wp_seq_k fun K31 hK31 => ?_
        refine wp_region_lit ?_
        refine mv hA fun a hA => ?_
        refine sq hA (q_neqI (n := 0) rfl rfl) rfl fun a hA => ?_
        replace hA := hA.decF (by exact fun h => h rfl)
        refine mv hA fun a hA => ?_
        refine gq hA rfl rfl (q_move rfl) rfl fun a hA => ?_
        refine gq hA rfl rfl (q_neqI (n := 0) rfl rfl) rfl fun a hA => ?_
        replace hA := hA.decF (by exact fun h => h rfl)
        refine sq hA (q_pick_f rfl rfl) rfl fun a hA => ?_
        refine mv hA fun a hA => ?_
        refine gq hA rfl rfl (q_move rfl) rfl fun a hA => ?_
        refine gq hA rfl rfl (q_eqlI (n := 100) rfl rfl) rfl fun a hA => ?_
        replace hA := hA.decT (by rfl)
        refine gq hA rfl rfl (q_move rfl) rfl fun a hA => ?_
        refine gl hA rfl rfl (lo_call fn30 rfl (down_tm b_y (mend Ty).2 N_y hT_y (HS.handed (Ns1 := [_]) hH))) rfl ?_
        rintro _ w ⟨N_y, rfl, hT_y, hC⟩ a hA
        replace hH := HS.call (Ns1 := [_]) hH hC
        clear hC
        rw [hm2] at hA
        refine gq hA rfl rfl (q_neqB Tryd.underlying4 rfl rfl) rfl fun a hA => ?_
        replace hA := hA.decF (by exact fun h => h rfl)
        refine sq hA (q_pick_f rfl rfl) rfl fun a hA => ?_
        refine mv hA fun a hA => ?_
        refine gq hA rfl rfl (q_move rfl) rfl fun a hA => ?_
        refine gq hA rfl rfl (q_neqI (n := 0) rfl rfl) rfl fun a hA => ?_
        replace hA := hA.decT (by decide)
        refine gq hA rfl rfl (q_move rfl) rfl fun a hA => ?_
        refine gq hA rfl rfl (q_move rfl) rfl fun a hA => ?_
        refine gq hA rfl rfl (q_nilNe Tryd.underlying27 rfl rfl) rfl fun a hA => ?_
        refine gq hA rfl rfl (q_pick_t rfl rfl) rfl fun a hA => ?_
        refine sq hA (q_pick_f rfl rfl) rfl fun a hA => ?_
        refine wpList_nil ?_
        refine hK31 _ _ ?_
        clear hK31
        replace hA := hA.s5 130 17 16 10 4
        refine cond_f hA rfl ?_
        refine wp_skip ?_
        refine hK30 _ _ ?_
        clear hK30
        replace hA := hA.s4 17 16 10 4
        refine wp_seq_k fun K32 hK32 => ?_
        refine wp_region_lit ?_
        refine mv hA fun a hA => ?_
        refine sl hA (lo_bs (f := I) (e := 3) ([]) hH rfl rfl (fun w => by kernel_rfl)) rfl ?_
        clear hH; rintro v_t133 w ⟨N_t133, hO_t133, hH⟩ a hA
        refine mv hA fun a hA => ?_
        refine sl hA (lo_appm hH Tryd.underlying37 Tryd.underlying37 (.inl rfl) ti3 rfl rfl rfl hO_t133 (Rd.src (hH.rd hks2)) (one_I _) (by first | omega | (simp; done) | (simp; omega)) (by first | omega | (simp; done) | (simp; omega))) rfl ?_
        clear hH; rintro v_t135 w ⟨N_t135, hO_t135, hH⟩ a hA
        replace hO_t135 : Ow I 3 v_t135 ks2 N_t135 := by simpa using hO_t135
        replace hH := hH.pick [1, 0, 2, 3, 4, 5, 6, 7, 8] (Hs' := [_, _, _, _, _, _, _, _, _]) rfl
        refine sl hA (lo_call fn15 rfl (crash_tm b_y (mend Ty).2 N_y hT_y hRy.mend.ok (fun i => Nat.le_trans (hRy.mend.op i) (by decide)) _ _ (Own.rdM hO_t135 (Ns1 := [_]) hH 0 rfl) (HS.handed (Ns1 := [_]) hH))) rfl ?_
        rintro _ w ⟨b_z, N_y, N_z, rfl, hT_y, hT_z, hC⟩ a hA
        replace hH := HS.call (Ns1 := [_]) hH hC
        clear hC
        obtain ⟨hcz1, hcz2⟩ := crash_rdy hRy.mend hSy.mend (by decide) ks2
        obtain ⟨hzm, hzo⟩ := crash_mend hcz1.ok
        rw [hfy] at hty
        replace hH := hH.pick [1, 0, 2, 3, 4, 5, 6, 7, 8, 9] (Hs' := [_, _, _, _, _, _, _, _, _, _]) rfl
        refine sl hA (lo_call fn13 rfl (open_ok (hg.mono0 hH) b_z ((mend Ty).2.crash ks2) N_z hT_z (hcz1.mono (by decide)) rfl (hcz2.mono (by decide)).sz hzm (hg.ng NG.nil hH) (HS.handed (Ns1 := [_]) hH))) rfl ?_
        rintro _ w ⟨b_c, N_z, N_c, rfl, hT_z, hV_c, hC⟩ a hA
        replace hH := HS.call (Ns1 := [_]) hH hC
        clear hC
        rw [hty] at hV_c
        refine mv hA fun a hA => ?_
        refine sq hA (q_extract rfl rfl) rfl fun a hA => ?_
        refine sq hA (q_extract rfl rfl) rfl fun a hA => ?_
        refine asg hA fun a hA => ?_
        refine asg hA fun a hA => ?_
        refine wpList_nil ?_
        refine hK32 _ _ ?_
        clear hK32
        replace hA := hA.s4 22 21 17 10
        refine wp_seq_k fun K33 hK33 => ?_
        refine wp_region_lit ?_
        refine mv hA fun a hA => ?_
        refine sq hA (q_eqlI (n := 0) rfl rfl) rfl fun a hA => ?_
        replace hA := hA.decT (by first | rfl | omega | assumption | (simp; done) | (simp [*]; done))
        refine mv hA fun a hA => ?_
        refine gq hA rfl rfl (q_move rfl) rfl fun a hA => ?_
        replace hH := hH.pick [1, 0, 2, 3, 4, 5, 6, 7, 8, 9, 10] (Hs' := [_, _, _, _, _, _, _, _, _, _, _]) rfl
        refine gl hA rfl rfl (lo_call fn25 rfl (gen_vm b_c b_z (opnT Tc) N_c hV_c hOc (HS.handed (Ns1 := [_]) hH))) rfl ?_
        rintro _ w ⟨N_c, rfl, hV_c, hC⟩ a hA
        replace hH := HS.call (Ns1 := [_]) hH hC
        clear hC
        refine gq hA rfl rfl (q_move rfl) rfl fun a hA => ?_
        replace hH := hH.pick [6, 0, 1, 2, 3, 4, 5, 7, 8, 9, 10] (Hs' := [_, _, _, _, _, _, _, _, _, _, _]) rfl
        refine gl hA rfl rfl (lo_call fn25 rfl (gen_vm b_a b_x (opnT Tc) N_a hV_a hOc (HS.handed (Ns1 := [_]) hH))) rfl ?_
        rintro _ w ⟨N_a, rfl, hV_a, hC⟩ a hA
        replace hH := HS.call (Ns1 := [_]) hH hC
        clear hC
        refine gq hA rfl rfl (q_eqlI rfl rfl) rfl fun a hA => ?_
        refine sq hA (q_pick_t rfl rfl) rfl fun a hA => ?_
        replace hA := hA.decT (by first | rfl | omega | assumption | (simp; done) | (simp [*]; done))
        refine mv hA fun a hA => ?_
        refine gq hA rfl rfl (q_move rfl) rfl fun a hA => ?_
        replace hH := hH.pick [1, 0, 2, 3, 4, 5, 6, 7, 8, 9, 10] (Hs' := [_, _, _, _, _, _, _, _, _, _, _]) rfl
        refine gl hA rfl rfl (lo_call fn26 rfl (text_vm b_c b_z (opnT Tc) N_c hV_c hOc (HS.handed (Ns1 := [_]) hH))) rfl ?_
        rintro _ w ⟨v_t151, N_t151, N_c, rfl, hO_t151, hV_c, hC⟩ a hA
        replace hH := HS.call (Ns1 := [_]) hH hC
        clear hC
        refine gq hA rfl rfl (q_move rfl) rfl fun a hA => ?_
        replace hH := hH.pick [2, 0, 1, 3, 4, 5, 6, 7, 8, 9, 10, 11] (Hs' := [_, _, _, _, _, _, _, _, _, _, _, _]) rfl
        refine gl hA rfl rfl (lo_call fn26 rfl (text_vm b_a b_x (opnT Tc) N_a hV_a hOc (HS.handed (Ns1 := [_]) hH))) rfl ?_
        rintro _ w ⟨v_t153, N_t153, N_a, rfl, hO_t153, hV_a, hC⟩ a hA
        replace hH := HS.call (Ns1 := [_]) hH hC
        clear hC
        refine gl hA rfl rfl (lo_call fn21 rfl (same_any _ _ _ _ (Own.rd0 hO_t151 hH 3 rfl) (Own.rd0 hO_t153 hH 1 rfl) (by first | omega | (simp; done) | (simp; omega)) (by first | omega | (simp; done) | (simp; omega)))) rfl ?_
        rintro _ w ⟨rfl, hC⟩ a hA
        replace hH := HS.call0 hH hC
        clear hC
        refine sq hA (q_pick_t rfl rfl) rfl fun a hA => ?_
        replace hA := hA.decT (by first | rfl | omega | assumption | (simp; done) | (simp [*]; done))
        refine mv hA fun a hA => ?_
        refine gq hA rfl rfl (q_move rfl) rfl fun a hA => ?_
        replace hH := hH.pick [2, 0, 1, 3, 4, 5, 6, 7, 8, 9, 10, 11, 12] (Hs' := [_, _, _, _, _, _, _, _, _, _, _, _, _]) rfl
        refine gl hA rfl rfl (lo_call fn23 rfl (recs_vm b_c b_z (opnT Tc) N_c hV_c hOc (HS.handed (Ns1 := [_]) hH))) rfl ?_
        rintro _ w ⟨v_t158, N_t158, N_dt158, N_c, rfl, hR_t158, hV_c, hC⟩ a hA
        replace hH := HS.call (Ns1 := [_]) hH hC
        clear hC
        refine gq hA rfl rfl (q_move rfl) rfl fun a hA => ?_
        replace hH := hH.pick [3, 0, 1, 2, 4, 5, 6, 7, 8, 9, 10, 11, 12, 13, 14] (Hs' := [_, _, _, _, _, _, _, _, _, _, _, _, _, _, _]) rfl
        refine gl hA rfl rfl (lo_call fn23 rfl (recs_vm b_a b_x (opnT Tc) N_a hV_a hOc (HS.handed (Ns1 := [_]) hH))) rfl ?_
        rintro _ w ⟨v_t160, N_t160, N_dt160, N_a, rfl, hR_t160, hV_a, hC⟩ a hA
        replace hH := HS.call (Ns1 := [_]) hH hC
        clear hC
        refine gl hA rfl rfl (lo_call fn31 rfl (sameR_any _ _ _ _ (RowsH.rdR hR_t158 hH 4 5 rfl rfl) (RowsH.rdR hR_t160 hH 1 2 rfl rfl) (by first | omega | (simp; done) | (simp; omega)) (by first | omega | (simp; done) | (simp; omega)) (by first | assumption | (simp; done) | (intro y hy; simp at hy; subst hy; decide)) (by first | assumption | (simp; done) | (intro y hy; simp at hy; subst hy; decide)))) rfl ?_
        rintro _ w ⟨rfl, hC⟩ a hA
        replace hH := HS.call0 hH hC
        clear hC
        refine sq hA (q_pick_t rfl rfl) rfl fun a hA => ?_
        replace hA := hA.decT (by first | rfl | omega | assumption | (simp; done) | (simp [*]; done))
        refine mv hA fun a hA => ?_
        refine gl hA rfl rfl (lo_call fn11 rfl (awake12_any (hg.mono0 hH))) rfl ?_
        rintro _ w ⟨rfl, hC⟩ a hA
        replace hH := HS.call0 hH hC
        clear hC
        refine sq hA (q_pick_t rfl rfl) rfl fun a hA => ?_
        refine asg hA fun a hA => ?_
        refine wpList_nil ?_
        refine hK33 _ _ ?_
        clear hK33
        replace hA := hA.s1 10
        refine wp_ret ?_
        refine post_ret hA (res_1 rfl hA rfl) ?_
        replace hH := hH.pick [] (Hs' := []) rfl
        exact ⟨_, rfl, rfl, hH⟩

end Go.Proofs.YthhdilafnfcpbaaDoor
