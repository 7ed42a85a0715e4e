/- Layer 12 (vault): the law VaultPlays. -/
import Derived.Test.YthhdilafnfcpbaaDoorJp
import Derived.Test.YthhdilafnfcpbaaDoorVz
namespace Go.Proofs.YthhdilafnfcpbaaDoor
open Go
set_option linter.unusedVariables false
set_option linter.unusedSimpArgs false
set_option maxRecDepth 100000

theorem long12_any {w0 : World} (v : Value) (cl : List CallE) (hcr : RdCl [] w0 v cl) (hcn : cl.length ≤ 1048576) :
    Calls Tryd.prog 10 #[v] w0 (Ret fun r w' => ∃ b, r = .bool (decide (b = true)) ∧ (b = false → cl.length ≤ 40 ∧ (∀ e ∈ cl, e.b.length ≤ 500 ∧ e.ks.length ≤ 10)) ∧ HS [] w0 w' []) := by
 have hH := HS.start w0
 refine start (n := 29) (E := [(0, _)]) Tryd.func10 rfl rfl rfl (args_look rfl) ?_
 intro a hA
 refine wp_seq_k fun K1 hK1 => ?_
 refine wp_region_lit ?_
 refine asg hA fun a hA => ?_
 refine wpList_nil ?_
 refine hK1 _ _ ?_
 clear hK1
 refine wp_seq_k fun K2 hK2 => ?_
 refine wp_seq_k fun K3 hK3 => ?_
 refine wp_region_lit ?_
 refine mv hA fun a hA => ?_
 refine sq hA (q_len Tryd.underlying22 rfl (Rd.shp hcr.1)) rfl fun a hA => ?_
 refine sq hA (q_gtrI (n := 40) rfl rfl) rfl fun a hA => ?_
 refine wpList_nil ?_
 refine hK3 _ _ ?_
 clear hK3
 replace hA := hA.s3 6 2 0
 refine cond_d hA rfl (fun hc6 => ?_) (fun hc6 => ?_)
 ·skip
  refine wp_seq_k fun K4 hK4 => ?_
  refine wp_region_lit ?_
  refine asg hA fun a hA => ?_
  refine wpList_nil ?_
  refine hK4 _ _ ?_
  clear hK4
  replace hA := hA.s2 2 0
  refine wp_ret ?_
  refine then_ret ?_
  refine post_ret hA (res_1 rfl hA rfl) ?_
  first | exact ⟨_, rfl, false, rfl, fun _ => ⟨by omega, hall⟩, hH⟩ | exact ⟨_, rfl, true, rfl, (fun h => by cases h), hH⟩
 ·skip
  refine wp_skip ?_
  refine hK2 _ _ ?_
  clear hK2
  replace hA := hA.s2 2 0
  refine wp_seq_k fun K5 hK5 => ?_
  refine wp_seq_k fun K6 hK6 => ?_
  refine wp_region_lit ?_
  refine asg hA fun a hA => ?_
  refine wpList_nil ?_
  refine hK6 _ _ ?_
  clear hK6
  refine wp_block ?_
  refine wp_loop_ghost (fun gm a w => ∃ i : Nat, At 29 [(3, I i), (2, (.bool false)), (0, v)] a ∧ HS [] w0 w ([]) ∧ (i ≤ cl.length) ∧ (∀ e ∈ cl.take i, e.b.length ≤ 500 ∧ e.ks.length ≤ 10) ∧ gm = cl.length - i) (cl.length - (0)) ⟨0, hA.sub ⟨rfl, rfl, rfl, trivial⟩, hH, by omega, by (intro e he; simp at he), rfl⟩ ?_
  clear hA hH
  rintro gm a w ⟨i, hA, hH, hi, hall, rfl⟩
  refine wp_seq_k fun K7 hK7 => ?_
  refine wp_seq_k fun K8 hK8 => ?_
  refine wp_region_lit ?_
  refine mv hA fun a hA => ?_
  refine mv hA fun a hA => ?_
  refine sq hA (q_len Tryd.underlying22 rfl (Rd.shp hcr.1)) rfl fun a hA => ?_
  refine sq hA (q_lssI rfl rfl) rfl fun a hA => ?_
  refine wpList_nil ?_
  refine hK8 _ _ ?_
  clear hK8
  refine cond_d hA rfl (fun hc10 => ?_) (fun hc10 => ?_)
  ·skip
   obtain ⟨e, hem, hei, hE3, hE0, hE1, hE2, he⟩ := hcr.get (i := i) (by omega)
   refine wp_skip ?_
   refine hK7 _ _ ?_
   clear hK7
   refine wp_seq_k fun K9 hK9 => ?_
   refine wp_block ?_
   refine wp_seq_k fun K10 hK10 => ?_
   refine wp_region_lit ?_
   refine mv hA fun a hA => ?_
   refine mv hA fun a hA => ?_
   refine sq hA (q_idxk (i) Tryd.underlying22 ti39 rfl rfl (by first | omega | rfl) (Rd.shp hcr.1) (by first | omega | (simp; done) | (simp; omega) | (rw [List.length_map]; assumption) | assumption | rfl | (simp [*]; done) | (simp [*]; omega))) rfl fun a hA => ?_
   refine sq hA (q_fldE 1 Tryd.underlying39 rfl rfl ti32 rfl) rfl fun a hA => ?_
   refine sq hA (q_loadR Tryd.underlying32 rfl rfl (hH.rd hcr.1) (by omega) hE1) rfl fun a hA => ?_
   refine sq hA (q_len Tryd.underlying32 rfl (Rd.shp he.1)) rfl fun a hA => ?_
   refine sq hA (q_gtrI (n := 500) rfl rfl) rfl fun a hA => ?_
   refine hA.spl (fun hs19 hA => ?_) (fun hs19 hA => ?_)
   ·skip
    refine mv hA fun a hA => ?_
    refine gs hA rfl rfl rfl rfl fun a hA => ?_
    refine gs hA rfl rfl rfl rfl fun a hA => ?_
    refine gs hA rfl rfl rfl rfl fun a hA => ?_
    refine gs hA rfl rfl rfl rfl fun a hA => ?_
    refine gs hA rfl rfl rfl rfl fun a hA => ?_
    refine gs hA rfl rfl rfl rfl fun a hA => ?_
    refine gs hA rfl rfl rfl rfl fun a hA => ?_
    refine sq hA (q_pick_t rfl rfl) rfl fun a hA => ?_
    refine wpList_nil ?_
    refine hK10 _ _ ?_
    clear hK10
    refine cond_t hA rfl ?_
    refine wp_seq_k fun K11 hK11 => ?_
    refine wp_region_lit ?_
    refine asg hA fun a hA => ?_
    refine wpList_nil ?_
    refine hK11 _ _ ?_
    clear hK11
    refine wp_ret ?_
    refine block_ret ?_
    refine then_ret ?_
    refine then_ret ?_
    refine block_ret ?_
    refine then_ret ?_
    refine post_ret hA (res_1 rfl hA rfl) ?_
    first | exact ⟨_, rfl, false, rfl, fun _ => ⟨by omega, hall⟩, hH⟩ | exact ⟨_, rfl, true, rfl, (fun h => by cases h), hH⟩
   ·skip
    refine mv hA fun a hA => ?_
    refine gq hA rfl rfl (q_move rfl) rfl fun a hA => ?_
    refine gq hA rfl rfl (q_move rfl) rfl fun a hA => ?_
    refine gq hA rfl rfl (q_idxk (i) Tryd.underlying22 ti39 rfl rfl (by first | omega | rfl) (Rd.shp hcr.1) (by first | omega | (simp; done) | (simp; omega) | (rw [List.length_map]; assumption) | assumption | rfl | (simp [*]; done) | (simp [*]; omega))) rfl fun a hA => ?_
    refine gq hA rfl rfl (q_fldE 2 Tryd.underlying39 rfl rfl ti37 rfl) rfl fun a hA => ?_
    refine gq hA rfl rfl (q_loadR Tryd.underlying37 rfl rfl (hH.rd hcr.1) (by omega) hE2) rfl fun a hA => ?_
    refine gq hA rfl rfl (q_len Tryd.underlying37 rfl (Rd.shp he.2.1)) rfl fun a hA => ?_
    refine gq hA rfl rfl (q_gtrI (n := 10) rfl rfl) rfl fun a hA => ?_
    refine sq hA (q_pick_f rfl rfl) rfl fun a hA => ?_
    refine wpList_nil ?_
    refine hK10 _ _ ?_
    clear hK10
    refine cond_d hA rfl (fun hc28 => ?_) (fun hc28 => ?_)
    ·skip
     refine wp_seq_k fun K12 hK12 => ?_
     refine wp_region_lit ?_
     refine asg hA fun a hA => ?_
     refine wpList_nil ?_
     refine hK12 _ _ ?_
     clear hK12
     refine wp_ret ?_
     refine block_ret ?_
     refine then_ret ?_
     refine then_ret ?_
     refine block_ret ?_
     refine then_ret ?_
     refine post_ret hA (res_1 rfl hA rfl) ?_
     first | exact ⟨_, rfl, false, rfl, fun _ => ⟨by omega, hall⟩, hH⟩ | exact ⟨_, rfl, true, rfl, (fun h => by cases h), hH⟩
    ·skip
     refine wp_skip ?_
     refine block_normal ?_
     refine hK9 _ _ ?_
     clear hK9
     refine wp_region_lit ?_
     refine mv hA fun a hA => ?_
     refine sq hA (q_addI (n := 1) rfl rfl (by omega)) rfl fun a hA => ?_
     refine asg hA fun a hA => ?_
     refine wpList_nil ?_
     exact ⟨_, by omega, i + 1, hA.sub ⟨rfl, rfl, rfl, trivial⟩, hH, by omega, by (intro e' he'; rw [List.take_add_one, hei] at he'; rcases List.mem_append.1 he' with h | h; exact hall e' h; (have : e' = e := by simpa using h); subst this; exact ⟨by omega, by omega⟩), rfl⟩
  ·skip
   obtain rfl : i = cl.length := by omega
   rw [List.take_length] at hall
   refine wp_exit ?_
   refine then_exit ?_
   refine then_exit ?_
   refine exit_here ?_
   refine hK5 _ _ ?_
   clear hK5
   replace hA := hA.s1 2
   refine wp_seq_k fun K13 hK13 => ?_
   refine wp_region_lit ?_
   refine asg hA fun a hA => ?_
   refine wpList_nil ?_
   refine hK13 _ _ ?_
   clear hK13
   refine wp_ret ?_
   refine post_ret hA (res_1 rfl hA rfl) ?_
   first | exact ⟨_, rfl, false, rfl, fun _ => ⟨by omega, hall⟩, hH⟩ | exact ⟨_, rfl, true, rfl, (fun h => by cases h), hH⟩

theorem does_i {w0 : World} {lv : Nat} (hg : Gl lv w0) (b_v b_t b_m : Nat) (V : Vs) (T : Tp) (N_t0 N_v0 N_m0 : Hl) (hT : TM 5 76 66 b_t T N_t0) (hV_v : VM 5 32 68 b_v b_t V N_v0) (hM : MM 5 32 35 b_m V.gen V.text V.recs N_m0) (hI : Inv T V) (hf : T.fuse < 0) (hs0 : Sz T 500000) (hg9 : V.gen ≤ 1000) (e : CallE) (hgM : NG lv (doms [N_t0, N_v0, N_m0])) (he : By (doms [N_t0, N_v0, N_m0]) w0 e.bv e.b) (heb : e.b.length ≤ 500) (hH : HS (doms [N_t0, N_v0, N_m0]) w0 w0 [N_t0, N_v0, N_m0]) :
    Calls Tryd.prog 16 #[(.pointer (some ⟨b_v, 0, none⟩)), (.pointer (some ⟨b_m, 0, none⟩)), (.agg (cellsK e).toArray)] w0 (Ret fun r w' => ∃ T' V' N_t' N_v' N_m', r = .bool true ∧ Inv T' V' ∧ T'.fuse = T.fuse ∧ (∀ B, Sz T B → Sz T' (B + 535)) ∧ V'.gen ≤ V.gen + 1 ∧ TM 5 76 66 b_t T' N_t' ∧ VM 5 32 68 b_v b_t V' N_v' ∧ MM 5 32 35 b_m V'.gen V'.text V'.recs N_m' ∧ HS (doms [N_t0, N_v0, N_m0]) w0 w' [N_t', N_v', N_m']) := by
 refine start (n := 30) (E := [(0, _), (1, _), (2, _)]) Tryd.func16 rfl rfl rfl (args_look rfl) ?_
 intro a hA
 refine wp_seq_k fun K1 hK1 => ?_
 refine wp_region_lit ?_
 refine sl hA (lo_boxA hH rfl) rfl ?_
 clear hH; rintro _ w ⟨b_t5, rfl, hH⟩ a hA
 refine asg hA fun a hA => ?_
 refine wpList_nil ?_
 refine hK1 _ _ ?_
 clear hK1
 replace hA := hA.s4 6 5 0 1
 refine wp_seq_k fun K2 hK2 => ?_
 refine wp_seq_k fun K3 hK3 => ?_
 refine wp_region_lit ?_
 refine sq hA (q_fld 0 Tryd.underlying39 rfl rfl ti3 rfl) rfl fun a hA => ?_
 refine sq hA (q_loadB hH 0 rfl (List.mem_singleton.2 rfl) Tryd.underlying3 rfl rfl rfl) rfl fun a hA => ?_
 refine sq hA (q_eqlI (n := 0) rfl rfl) rfl fun a hA => ?_
 refine wpList_nil ?_
 refine hK3 _ _ ?_
 clear hK3
 replace hA := hA.s5 9 6 5 0 1
 refine cond_d hA rfl (fun hc9 => ?_) (fun hc9 => ?_)
 ·skip
  refine wp_seq_k fun K4 hK4 => ?_
  refine any_goI mixed [0] (Hs' := [_]) rfl (fun _ => true) hH ?_
  clear hH; intro w hH hS
  refine any_l 11 ?_
  refine p0 hA 0 1 rfl (fun w => (q_move rfl)) fun a hA => ?_
  refine p0 hA 1 3 rfl (fun w => (q_fld 1 Tryd.underlying39 rfl rfl ti32 rfl)) fun a hA => ?_
  refine r0 hA 2 7 rfl hS (fun w hH => (q_loadB hH 0 rfl (List.mem_singleton.2 rfl) Tryd.underlying32 rfl rfl rfl)) fun a hA => ?_
  refine p0 hA 5 39 rfl (fun w => (q_move rfl)) fun a hA => ?_
  refine p0 hA 6 103 rfl (fun w => (q_fld 1 Tryd.underlying39 rfl rfl ti32 rfl)) fun a hA => ?_
  refine r0 hA 7 231 rfl hS (fun w hH => (q_loadB hH 0 rfl (List.mem_singleton.2 rfl) Tryd.underlying32 rfl rfl rfl)) fun a hA => ?_
  refine a1 hA 3 239 rfl (lo_call fn18 rfl (lown12_any _ _ (hH.rd he) (by first | omega | (simp; done) | (simp; omega)))) ?_
  rintro _ w ⟨v_t13, N_t13, rfl, hO_t13, hC⟩
  replace hH := HS.call0 hH hC
  clear hC
  replace hS := hH.pick [1] (Hs' := [_]) rfl
  refine ⟨fun _ _ => hS, ?_⟩
  intro a hA
  replace hH := hH.pick [2, 3, 0, 1, 4] (Hs' := [_, _, _, _, _]) rfl
  refine a1 hA 4 255 rfl (lo_call fn22 rfl (add_i (hg.mono hH hgM) b_v b_t hV_v hT hI hf (Gl.ngs (Ns1 := [_, _]) hg hgM hH) _ _ (Own.rdM hO_t13 (Ns1 := [_, _]) hH 0 rfl) (by first | omega | (simp; done) | (simp; omega)) (by have := hs0 0; omega) (HS.handed (Ns1 := [_, _]) hH))) ?_
  rintro _ w ⟨T1, N_t, N_v, rfl, hI1, hf1, hs1, hT, hV_v, hC⟩
  replace hH := HS.call (Ns1 := [_, _]) hH hC
  clear hC
  replace hS := hH.pick [3] (Hs' := [_]) rfl
  refine ⟨fun _ _ => hS, ?_⟩
  intro a hA
  replace hH := hH.pick [4, 0, 1, 2, 3] (Hs' := [_, _, _, _, _]) rfl
  refine a1 hA 8 511 rfl (lo_call fn28 rfl (madd_mm b_m _ _ _ _ hM hI.vok.rn _ _ (HS.rdM (Ns1 := [_]) hH he) (by first | omega | (simp; done) | (simp; omega)) (HS.handed (Ns1 := [_]) hH))) ?_
  rintro _ w ⟨N_m, rfl, hM, hC⟩
  replace hH := HS.call (Ns1 := [_]) hH hC
  clear hC
  replace hS := hH.pick [4] (Hs' := [_]) rfl
  refine ⟨fun _ _ => hS, ?_⟩
  intro a hA
  refine p0 hA 9 1023 rfl (fun w => (q_eqlI rfl rfl)) fun a hA => ?_
  refine p0 hA 10 2047 rfl (fun w => (q_assign rfl)) fun a hA => ?_
  refine a_end (by kernel_rfl) ?_ _
  refine hK4 _ _ ?_
  clear hK4
  replace hA := hA.s4 6 5 0 1
  refine wp_ret ?_
  refine then_ret ?_
  refine post_ret hA (res_1 rfl hA rfl) ?_
  replace hH := hH.pick [1, 2, 0, 3, 4] (Hs' := [_, _, _, _, _]) rfl
  replace hH := hH.pick [0, 1, 2] (Hs' := [_, _, _]) rfl
  exact ⟨_, rfl, T1, _, N_t, N_v, N_m, rfl, hI1, hf1, fun B hB => (hs1 B hB).mono (by omega), by first | exact Nat.le_refl _ | exact Nat.le_succ _, hT, hV_v, hM, hH⟩
 ·skip
  refine wp_skip ?_
  refine hK2 _ _ ?_
  clear hK2
  replace hA := hA.s4 6 5 0 1
  refine wp_seq_k fun K5 hK5 => ?_
  refine any_goI mixed [0] (Hs' := [_]) rfl (fun _ => true) hH ?_
  clear hH; intro w hH hS
  refine any_l 11 ?_
  refine p0 hA 0 1 rfl (fun w => (q_move rfl)) fun a hA => ?_
  refine p0 hA 1 3 rfl (fun w => (q_fld 1 Tryd.underlying39 rfl rfl ti32 rfl)) fun a hA => ?_
  refine r0 hA 2 7 rfl hS (fun w hH => (q_loadB hH 0 rfl (List.mem_singleton.2 rfl) Tryd.underlying32 rfl rfl rfl)) fun a hA => ?_
  refine p0 hA 5 39 rfl (fun w => (q_move rfl)) fun a hA => ?_
  refine p0 hA 6 103 rfl (fun w => (q_fld 1 Tryd.underlying39 rfl rfl ti32 rfl)) fun a hA => ?_
  refine r0 hA 7 231 rfl hS (fun w hH => (q_loadB hH 0 rfl (List.mem_singleton.2 rfl) Tryd.underlying32 rfl rfl rfl)) fun a hA => ?_
  refine a1 hA 3 239 rfl (lo_call fn18 rfl (lown12_any _ _ (hH.rd he) (by first | omega | (simp; done) | (simp; omega)))) ?_
  rintro _ w ⟨v_t23, N_t23, rfl, hO_t23, hC⟩
  replace hH := HS.call0 hH hC
  clear hC
  replace hS := hH.pick [1] (Hs' := [_]) rfl
  refine ⟨fun _ _ => hS, ?_⟩
  intro a hA
  replace hH := hH.pick [2, 3, 0, 1, 4] (Hs' := [_, _, _, _, _]) rfl
  refine a1 hA 4 255 rfl (lo_call fn24 rfl (save_i (hg.mono hH hgM) b_v b_t hV_v hT hI hf (Gl.ngs (Ns1 := [_, _]) hg hgM hH) _ _ (Own.rdM hO_t23 (Ns1 := [_, _]) hH 0 rfl) (by first | omega | (simp; done) | (simp; omega)) (by omega) (HS.handed (Ns1 := [_, _]) hH))) ?_
  rintro _ w ⟨T1, N_t, N_v, rfl, hI1, hf1, hs1, hz0, hT, hV_v, hC⟩
  replace hH := HS.call (Ns1 := [_, _]) hH hC
  clear hC
  replace hS := hH.pick [3] (Hs' := [_]) rfl
  refine ⟨fun _ _ => hS, ?_⟩
  intro a hA
  replace hH := hH.pick [4, 0, 1, 2, 3] (Hs' := [_, _, _, _, _]) rfl
  refine a1 hA 8 511 rfl (lo_call fn27 rfl (msave_mm b_m _ _ _ _ hM (by omega) _ _ (HS.rdM (Ns1 := [_]) hH he) (by first | omega | (simp; done) | (simp; omega)) (HS.handed (Ns1 := [_]) hH))) ?_
  rintro _ w ⟨N_m, rfl, hM, hC⟩
  replace hH := HS.call (Ns1 := [_]) hH hC
  clear hC
  replace hS := hH.pick [4] (Hs' := [_]) rfl
  refine ⟨fun _ _ => hS, ?_⟩
  intro a hA
  refine p0 hA 9 1023 rfl (fun w => (q_eqlI rfl rfl)) fun a hA => ?_
  refine p0 hA 10 2047 rfl (fun w => (q_assign rfl)) fun a hA => ?_
  refine a_end (by kernel_rfl) ?_ _
  refine hK5 _ _ ?_
  clear hK5
  replace hA := hA.s1 6
  refine wp_ret ?_
  refine post_ret hA (res_1 rfl hA rfl) ?_
  replace hH := hH.pick [1, 2, 0, 3, 4] (Hs' := [_, _, _, _, _]) rfl
  replace hH := hH.pick [0, 1, 2] (Hs' := [_, _, _]) rfl
  exact ⟨_, rfl, T1, _, N_t, N_v, N_m, rfl, hI1, hf1, fun B hB => (hs1 B hB).mono (by omega), by first | exact Nat.le_refl _ | exact Nat.le_succ _, hT, hV_v, hM, hH⟩

set_option maxHeartbeats 2000000 in
theorem vaultPlays_any {w0 : World} {lv : Nat} (hg : Gl lv w0) (v : Value) (cl : List CallE) (hcr : RdCl [] w0 v cl) (hcn : cl.length ≤ 1048576) :
    Calls Tryd.prog 3 #[v] w0 (Ret fun r w' => r = .bool true ∧ HS [] w0 w' []) := by
 have hH := HS.start w0
 refine start (n := 76) (E := [(0, _)]) Tryd.func3 rfl rfl rfl (args_look rfl) ?_
 intro a hA
 refine wp_seq_k fun K1 hK1 => ?_
 refine wp_region_lit ?_
 refine asg hA fun a hA => ?_
 refine wpList_nil ?_
 refine hK1 _ _ ?_
 clear hK1
 refine wp_seq_k fun K2 hK2 => ?_
 refine wp_seq_k fun K3 hK3 => ?_
 refine wp_region_lit ?_
 refine mv hA fun a hA => ?_
 refine sl hA (lo_call fn10 rfl (long12_any _ _ (hH.rdCl hcr) (by first | omega | (simp; done) | (simp; omega)))) rfl ?_
 rintro _ w ⟨b_t9, rfl, hb_t9, hC⟩ a hA
 replace hH := HS.call0 hH hC
 clear hC
 refine hA.spl (fun hs9 hA => ?_) (fun hs9 hA => ?_)
 ·skip
  refine wpList_nil ?_
  refine hK3 _ _ ?_
  clear hK3
  replace hA := hA.s3 9 2 0
  refine cond_t hA rfl ?_
  refine wp_seq_k fun K4 hK4 => ?_
  refine wp_region_lit ?_
  refine sl hA (lo_call fn11 rfl (awake12_any (hg.mono0 hH))) rfl ?_
  rintro _ w ⟨rfl, hC⟩ a hA
  replace hH := HS.call0 hH hC
  clear hC
  refine asg hA fun a hA => ?_
  refine wpList_nil ?_
  refine hK4 _ _ ?_
  clear hK4
  replace hA := hA.s2 2 0
  refine wp_ret ?_
  refine then_ret ?_
  refine post_ret hA (res_1 rfl hA rfl) ?_
  exact ⟨_, rfl, rfl, hH⟩
 ·skip
  obtain ⟨hl40, hl5⟩ := hb_t9 (by simpa using hs9)
  refine wpList_nil ?_
  refine hK3 _ _ ?_
  clear hK3
  replace hA := hA.s3 9 2 0
  refine cond_f hA rfl ?_
  refine wp_skip ?_
  refine hK2 _ _ ?_
  clear hK2
  replace hA := hA.s2 2 0
  refine wp_seq_k fun K5 hK5 => ?_
  refine wp_region_lit ?_
  refine sl hA (lo_call fn12 rfl newt_tm) rfl ?_
  rintro _ w ⟨b_t, N_t, rfl, hT, hC⟩ a hA
  replace hH := HS.call0 hH hC
  clear hC
  refine asg hA fun a hA => ?_
  refine wpList_nil ?_
  refine hK5 _ _ ?_
  clear hK5
  replace hA := hA.s3 3 2 0
  refine wp_seq_k fun K6 hK6 => ?_
  refine wp_region_lit ?_
  refine mv hA fun a hA => ?_
  refine sl hA (lo_call fn13 rfl (open_i (hg.mono0 hH) b_t newT N_t hT newV Inv_new (by decide) (fun i => Nat.zero_le _) (hg.ng NG.nil hH) (HS.handed (Ns1 := [_]) hH))) rfl ?_
  rintro _ w ⟨b_v, N_t, N_v, rfl, hT, hV_v, hC⟩ a hA
  replace hH := HS.call (Ns1 := [_]) hH hC
  clear hC
  refine mv hA fun a hA => ?_
  refine sq hA (q_extract rfl rfl) rfl fun a hA => ?_
  refine sq hA (q_extract rfl rfl) rfl fun a hA => ?_
  refine asg hA fun a hA => ?_
  refine asg hA fun a hA => ?_
  refine wpList_nil ?_
  refine hK6 _ _ ?_
  clear hK6
  replace hA := hA.s5 5 4 3 2 0
  refine wp_seq_k fun K7 hK7 => ?_
  refine wp_region_lit ?_
  refine sq hA (q_build (v := (.agg ([(I 0), (.slice none 0 0), (.slice none 0 0)]).toArray)) (vs := []) rfl (fun w => by kernel_rfl)) rfl fun a hA => ?_
  refine sl hA (lo_boxA hH rfl) rfl ?_
  clear hH; rintro _ w ⟨b_t18, rfl, hH⟩ a hA
  obtain ⟨b_m, hbm⟩ : ∃ b, b = b_t18 := ⟨_, rfl⟩
  subst hbm
  obtain ⟨N_m, hNm, hM⟩ : ∃ N, N = [(b_m, Obj.cells (mC 0 nilV nilV).toArray 35 (0, 0))] ∧ MM 5 32 35 b_m newV.gen newV.text newV.recs N := ⟨_, rfl, nilV, nilV, [], [], [], rfl, Own.nil _ _, RowsH.nil _⟩
  replace hH : HS _ _ _ ([(b_m, Obj.cells (mC 0 nilV nilV).toArray 35 (0, 0))] :: _) := hH
  rw [← hNm] at hH
  refine asg hA fun a hA => ?_
  refine wpList_nil ?_
  refine hK7 _ _ ?_
  clear hK7
  replace hA := hA.s6 6 5 4 3 2 0
  refine wp_seq_k fun K8 hK8 => ?_
  refine wp_seq_k fun K9 hK9 => ?_
  refine wp_region_lit ?_
  refine mv hA fun a hA => ?_
  refine sq hA (q_neqI (n := 0) rfl rfl) rfl fun a hA => ?_
  replace hA := hA.decF (by exact fun h => h rfl)
  refine mv hA fun a hA => ?_
  refine gq hA rfl rfl (q_move rfl) rfl fun a hA => ?_
  refine gq hA rfl rfl (q_move rfl) rfl fun a hA => ?_
  replace hH := hH.pick [2, 0, 1] (Hs' := [_, _, _]) rfl
  refine gl hA rfl rfl (lo_call fn14 rfl (same_vm b_v b_t _ N_v hV_v Inv_new.vok b_m _ _ _ N_m hM Inv_new.vok.tl (fun y hy => Nat.le_trans (Inv_new.vok.rl y hy) (by decide)) Inv_new.vok.rn (HS.handed (Ns1 := [_, _]) hH))) rfl ?_
  rintro _ w ⟨N_v, N_m, rfl, hV_v, hM, hC⟩ a hA
  replace hH := HS.call (Ns1 := [_, _]) hH hC
  clear hC
  replace hA := hA.decT (by exact ⟨rfl, rfl, rfl⟩)
  refine gq hA rfl rfl (q_not rfl) rfl fun a hA => ?_
  refine sq hA (q_pick_f rfl rfl) rfl fun a hA => ?_
  refine wpList_nil ?_
  refine hK9 _ _ ?_
  clear hK9
  replace hA := hA.s7 26 6 5 4 3 2 0
  refine cond_f hA rfl ?_
  refine wp_skip ?_
  refine hK8 _ _ ?_
  clear hK8
  replace hA := hA.s6 6 5 4 3 2 0
  refine wp_seq_k fun K10 hK10 => ?_
  refine wp_seq_k fun K11 hK11 => ?_
  refine wp_region_lit ?_
  refine asg hA fun a hA => ?_
  refine wpList_nil ?_
  refine hK11 _ _ ?_
  clear hK11
  refine wp_block ?_
  replace hH := hH.pick [2, 0, 1] (Hs' := [_, _, _]) rfl
  refine wp_loop_ghost (fun gm a w => ∃ i : Nat, ∃ b_t : Nat, ∃ b_v : Nat, ∃ T : Tp, ∃ V : Vs, ∃ N_t : Hl, ∃ N_v : Hl, ∃ N_m : Hl, At 76 [(7, I i), (6, (.pointer (some ⟨b_m, 0, none⟩))), (4, (.pointer (some ⟨b_v, 0, none⟩))), (3, (.pointer (some ⟨b_t, 0, none⟩))), (2, (.bool false)), (0, v)] a ∧ HS [] w0 w ([N_t, N_v, N_m]) ∧ (i ≤ cl.length) ∧ (Inv T V) ∧ (T.fuse < 0) ∧ (Sz T (535 * i)) ∧ (V.gen ≤ i) ∧ (TM 5 76 66 b_t T N_t) ∧ (VM 5 32 68 b_v b_t V N_v) ∧ (MM 5 32 35 b_m V.gen V.text V.recs N_m) ∧ gm = cl.length - i) (cl.length - (0)) ⟨0, b_t, b_v, newT, newV, N_t, N_v, N_m, hA.sub ⟨rfl, rfl, rfl, rfl, rfl, rfl, trivial⟩, hH, by omega, by exact Inv_new, by decide, by exact fun i => Nat.zero_le _, by exact Nat.zero_le _, by exact hT, by exact hV_v, by exact hM, rfl⟩ ?_
  clear hA hH
  rintro gm a w ⟨i, b_t, b_v, T, V, N_t, N_v, N_m, hA, hH, hi, hI, hf, hs, hgi, hT, hV_v, hM, rfl⟩
  refine wp_seq_k fun K12 hK12 => ?_
  refine wp_seq_k fun K13 hK13 => ?_
  refine wp_region_lit ?_
  refine mv hA fun a hA => ?_
  refine mv hA fun a hA => ?_
  refine sq hA (q_len Tryd.underlying22 rfl (Rd.shp hcr.1)) rfl fun a hA => ?_
  refine sq hA (q_lssI rfl rfl) rfl fun a hA => ?_
  refine wpList_nil ?_
  refine hK13 _ _ ?_
  clear hK13
  refine cond_d hA rfl (fun hc30 => ?_) (fun hc30 => ?_)
  ·skip
   obtain ⟨e, hem, hei, hE3, hE0, hE1, hE2, he⟩ := hcr.get (i := i) (by omega)
   have he5 := hl5 e hem
   refine wp_skip ?_
   refine hK12 _ _ ?_
   clear hK12
   refine wp_seq_k fun K14 hK14 => ?_
   refine wp_block ?_
   refine wp_seq_k fun K15 hK15 => ?_
   refine wp_seq_k fun K16 hK16 => ?_
   refine wp_region_lit ?_
   refine mv hA fun a hA => ?_
   refine mv hA fun a hA => ?_
   refine sq hA (q_idxk (i) Tryd.underlying22 ti39 rfl rfl (by first | omega | rfl) (Rd.shp hcr.1) (by first | omega | (simp; done) | (simp; omega) | (rw [List.length_map]; assumption) | assumption | rfl | (simp [*]; done) | (simp [*]; omega))) rfl fun a hA => ?_
   refine sq hA (q_fldE 0 Tryd.underlying39 rfl rfl ti3 rfl) rfl fun a hA => ?_
   refine sq hA (q_loadR Tryd.underlying3 rfl rfl (hH.rd hcr.1) (by omega) hE0) rfl fun a hA => ?_
   refine sq hA (q_neqI (n := 0) rfl rfl) rfl fun a hA => ?_
   refine hA.spl (fun hs38 hA => ?_) (fun hs38 hA => ?_)
   ·skip
    refine mv hA fun a hA => ?_
    refine gq hA rfl rfl (q_move rfl) rfl fun a hA => ?_
    refine gq hA rfl rfl (q_move rfl) rfl fun a hA => ?_
    refine gq hA rfl rfl (q_idxk (i) Tryd.underlying22 ti39 rfl rfl (by first | omega | rfl) (Rd.shp hcr.1) (by first | omega | (simp; done) | (simp; omega) | (rw [List.length_map]; assumption) | assumption | rfl | (simp [*]; done) | (simp [*]; omega))) rfl fun a hA => ?_
    refine gq hA rfl rfl (q_fldE 0 Tryd.underlying39 rfl rfl ti3 rfl) rfl fun a hA => ?_
    refine gq hA rfl rfl (q_loadR Tryd.underlying3 rfl rfl (hH.rd hcr.1) (by omega) hE0) rfl fun a hA => ?_
    refine gq hA rfl rfl (q_neqI (n := 1) rfl rfl) rfl fun a hA => ?_
    refine sq hA (q_pick_t rfl rfl) rfl fun a hA => ?_
    refine wpList_nil ?_
    refine hK16 _ _ ?_
    clear hK16
    refine cond_d hA rfl (fun hc46 => ?_) (fun hc46 => ?_)
    ·skip
     refine wp_seq_k fun K17 hK17 => ?_
     refine wp_region_lit ?_
     refine mv hA fun a hA => ?_
     refine sl hA (lo_bs (f := I) (e := 3) ([]) hH rfl rfl (fun w => by kernel_rfl)) rfl ?_
     clear hH; rintro v_t48 w ⟨N_t48, hO_t48, hH⟩ a hA
     refine mv hA fun a hA => ?_
     refine mv hA fun a hA => ?_
     refine sq hA (q_idxk (i) Tryd.underlying22 ti39 rfl rfl (by first | omega | rfl) (Rd.shp hcr.1) (by first | omega | (simp; done) | (simp; omega) | (rw [List.length_map]; assumption) | assumption | rfl | (simp [*]; done) | (simp [*]; omega))) rfl fun a hA => ?_
     refine sq hA (q_fldE 2 Tryd.underlying39 rfl rfl ti37 rfl) rfl fun a hA => ?_
     refine sq hA (q_loadR Tryd.underlying37 rfl rfl (hH.rd hcr.1) (by omega) hE2) rfl fun a hA => ?_
     refine sl hA (lo_appm hH Tryd.underlying37 Tryd.underlying37 (.inl rfl) ti3 rfl rfl rfl hO_t48 (Rd.src (hH.rd he.2.1)) (one_I _) (by first | omega | (simp; done) | (simp; omega)) (by first | omega | (simp; done) | (simp; omega))) rfl ?_
     clear hH; rintro v_t54 w ⟨N_t54, hO_t54, hH⟩ a hA
     replace hO_t54 : Ow I 3 v_t54 e.ks N_t54 := by simpa using hO_t54
     replace hH := hH.pick [1, 0, 2, 3] (Hs' := [_, _, _, _]) rfl
     refine sl hA (lo_call fn15 rfl (crash_tm b_t T N_t hT hI.ok (fun i => by rw [hI.op i]; exact Nat.zero_le _) _ _ (Own.rdM hO_t54 (Ns1 := [_]) hH 0 rfl) (HS.handed (Ns1 := [_]) hH))) rfl ?_
     rintro _ w ⟨b_x, N_t, N_x, rfl, hT, hT_x, hC⟩ a hA
     replace hH := HS.call (Ns1 := [_]) hH hC
     clear hC
     obtain ⟨Tx, hTx⟩ : ∃ T', T' = T.crash e.ks := ⟨_, rfl⟩
     rw [← hTx] at hT_x
     have hIx : Inv Tx V := by rw [hTx]; exact hI.crash _
     have hfx : Tx.fuse < 0 := by rw [hTx]; show (-1 : Int) < 0; decide
     have hsx : ∀ B, Sz T B → Sz Tx B := fun B hB => by rw [hTx]; exact Sz.crash hI hB _
     refine asg hA fun a hA => ?_
     refine wpList_nil ?_
     refine hK17 _ _ ?_
     clear hK17
     refine wp_seq_k fun K18 hK18 => ?_
     refine wp_region_lit ?_
     refine mv hA fun a hA => ?_
     replace hH := hH.pick [1, 0, 2, 3, 4] (Hs' := [_, _, _, _, _]) rfl
     refine sl hA (lo_call fn13 rfl (open_i (hg.mono0 hH) b_x Tx N_x hT_x V hIx hfx ((hsx _ hs).mono (by omega)) (hg.ng NG.nil hH) (HS.handed (Ns1 := [_]) hH))) rfl ?_
     rintro _ w ⟨b_w, N_x, N_w, rfl, hT_x, hV_w, hC⟩ a hA
     replace hH := HS.call (Ns1 := [_]) hH hC
     clear hC
     refine mv hA fun a hA => ?_
     refine sq hA (q_extract rfl rfl) rfl fun a hA => ?_
     refine sq hA (q_extract rfl rfl) rfl fun a hA => ?_
     refine asg hA fun a hA => ?_
     refine asg hA fun a hA => ?_
     refine wpList_nil ?_
     refine hK18 _ _ ?_
     clear hK18
     refine wp_seq_k fun K19 hK19 => ?_
     refine wp_region_lit ?_
     refine mv hA fun a hA => ?_
     refine sq hA (q_neqI (n := 0) rfl rfl) rfl fun a hA => ?_
     replace hA := hA.decF (by exact fun h => h rfl)
     refine wpList_nil ?_
     refine hK19 _ _ ?_
     clear hK19
     refine cond_f hA rfl ?_
     refine wp_skip ?_
     refine hK15 _ _ ?_
     clear hK15
     refine wp_seq_k fun K20 hK20 => ?_
     refine wp_region_lit ?_
     refine mv hA fun a hA => ?_
     refine mv hA fun a hA => ?_
     replace hH := hH.pick [1, 5, 0, 2, 3, 4] (Hs' := [_, _, _, _, _, _]) rfl
     refine sl hA (lo_call fn14 rfl (same_vm b_w b_x _ N_w hV_w hI.vok b_m _ _ _ N_m hM hI.vok.tl (fun y hy => Nat.le_trans (hI.vok.rl y hy) (by decide)) hI.vok.rn (HS.handed (Ns1 := [_, _]) hH))) rfl ?_
     rintro _ w ⟨N_w, N_m, rfl, hV_w, hM, hC⟩ a hA
     replace hH := HS.call (Ns1 := [_, _]) hH hC
     clear hC
     replace hH := hH.pick [0, 1, 2, 4] (Hs' := [_, _, _, _]) rfl
     replace hA := hA.decT (by first | exact outs_f hI'.vd | exact outs_f hI.vd)
     refine sq hA (q_not rfl) rfl fun a hA => ?_
     refine wpList_nil ?_
     refine hK20 _ _ ?_
     clear hK20
     refine cond_f hA rfl ?_
     refine wp_skip ?_
     refine block_normal ?_
     refine hK14 _ _ ?_
     clear hK14
     refine wp_region_lit ?_
     refine mv hA fun a hA => ?_
     refine sq hA (q_addI (n := 1) rfl rfl (by omega)) rfl fun a hA => ?_
     refine asg hA fun a hA => ?_
     refine wpList_nil ?_
     replace hH := hH.pick [2, 0, 1, 3] (Hs' := [_, _, _, _]) rfl
     replace hH := hH.pick [0, 1, 2] (Hs' := [_, _, _]) rfl
     exact ⟨_, by omega, i + 1, b_x, b_w, Tx, V, N_x, N_w, N_m, hA.sub ⟨rfl, rfl, rfl, rfl, rfl, rfl, trivial⟩, hH, by omega, by first | exact hI' | exact hIx, by first | (rw [hf']; exact hf) | exact hfx, by first | exact (hs' _ hs).mono (by omega) | exact (hsx _ hs).mono (by omega), by omega, by first | exact hT_x | exact hT, by first | exact hV_w | exact hV_v, by exact hM, rfl⟩
    ·skip
     refine wp_seq_k fun K21 hK21 => ?_
     refine wp_region_lit ?_
     refine mv hA fun a hA => ?_
     refine mv hA fun a hA => ?_
     refine mv hA fun a hA => ?_
     refine mv hA fun a hA => ?_
     refine sq hA (q_idxk (i) Tryd.underlying22 ti39 rfl rfl (by first | omega | rfl) (Rd.shp hcr.1) (by first | omega | (simp; done) | (simp; omega) | (rw [List.length_map]; assumption) | assumption | rfl | (simp [*]; done) | (simp [*]; omega))) rfl fun a hA => ?_
     refine sq hA (q_loadRs Tryd.underlying39 rfl ti39 rfl (hH.rd hcr.1) (by omega) _ hE3) rfl fun a hA => ?_
     refine sl hA (lo_call fn16 rfl (does_i (hg.mono0 hH) b_v b_t b_m V T N_t N_v N_m hT hV_v hM hI hf (hs.mono (by omega)) (by omega) e (Gl.ngs (Ns1 := [_, _, _]) hg NG.nil hH) (HS.rdM (Ns1 := [_, _, _]) hH he.1) he5.1 (HS.handed (Ns1 := [_, _, _]) hH))) rfl ?_
     rintro _ w ⟨T', V', N_t, N_v, N_m, rfl, hI', hf', hs', hg', hT, hV_v, hM, hC⟩ a hA
     replace hH := HS.call (Ns1 := [_, _, _]) hH hC
     clear hC
     refine sq hA (q_not rfl) rfl fun a hA => ?_
     refine wpList_nil ?_
     refine hK21 _ _ ?_
     clear hK21
     refine cond_f hA rfl ?_
     refine wp_skip ?_
     refine hK15 _ _ ?_
     clear hK15
     refine wp_seq_k fun K22 hK22 => ?_
     refine wp_region_lit ?_
     refine mv hA fun a hA => ?_
     refine mv hA fun a hA => ?_
     replace hH := hH.pick [1, 2, 0] (Hs' := [_, _, _]) rfl
     refine sl hA (lo_call fn14 rfl (same_vm b_v b_t _ N_v hV_v hI'.vok b_m _ _ _ N_m hM hI'.vok.tl (fun y hy => Nat.le_trans (hI'.vok.rl y hy) (by decide)) hI'.vok.rn (HS.handed (Ns1 := [_, _]) hH))) rfl ?_
     rintro _ w ⟨N_v, N_m, rfl, hV_v, hM, hC⟩ a hA
     replace hH := HS.call (Ns1 := [_, _]) hH hC
     clear hC
     replace hA := hA.decT (by first | exact outs_f hI'.vd | exact outs_f hI.vd)
     refine sq hA (q_not rfl) rfl fun a hA => ?_
     refine wpList_nil ?_
     refine hK22 _ _ ?_
     clear hK22
     refine cond_f hA rfl ?_
     refine wp_skip ?_
     refine block_normal ?_
     refine hK14 _ _ ?_
     clear hK14
     refine wp_region_lit ?_
     refine mv hA fun a hA => ?_
     refine sq hA (q_addI (n := 1) rfl rfl (by omega)) rfl fun a hA => ?_
     refine asg hA fun a hA => ?_
     refine wpList_nil ?_
     replace hH := hH.pick [2, 0, 1] (Hs' := [_, _, _]) rfl
     exact ⟨_, by omega, i + 1, b_t, b_v, T', V', N_t, N_v, N_m, hA.sub ⟨rfl, rfl, rfl, rfl, rfl, rfl, trivial⟩, hH, by omega, by first | exact hI' | exact hIx, by first | (rw [hf']; exact hf) | exact hfx, by first | exact (hs' _ hs).mono (by omega) | exact (hsx _ hs).mono (by omega), by omega, by first | exact hT_x | exact hT, by first | exact hV_w | exact hV_v, by exact hM, rfl⟩
   ·skip
    refine mv hA fun a hA => ?_
    refine gs hA rfl rfl rfl rfl fun a hA => ?_
    refine gs hA rfl rfl rfl rfl fun a hA => ?_
    refine gs hA rfl rfl rfl rfl fun a hA => ?_
    refine gs hA rfl rfl rfl rfl fun a hA => ?_
    refine gs hA rfl rfl rfl rfl fun a hA => ?_
    refine gs hA rfl rfl rfl rfl fun a hA => ?_
    refine sq hA (q_pick_f rfl rfl) rfl fun a hA => ?_
    refine wpList_nil ?_
    refine hK16 _ _ ?_
    clear hK16
    refine cond_f hA rfl ?_
    refine wp_seq_k fun K23 hK23 => ?_
    refine wp_region_lit ?_
    refine mv hA fun a hA => ?_
    refine mv hA fun a hA => ?_
    refine mv hA fun a hA => ?_
    refine mv hA fun a hA => ?_
    refine sq hA (q_idxk (i) Tryd.underlying22 ti39 rfl rfl (by first | omega | rfl) (Rd.shp hcr.1) (by first | omega | (simp; done) | (simp; omega) | (rw [List.length_map]; assumption) | assumption | rfl | (simp [*]; done) | (simp [*]; omega))) rfl fun a hA => ?_
    refine sq hA (q_loadRs Tryd.underlying39 rfl ti39 rfl (hH.rd hcr.1) (by omega) _ hE3) rfl fun a hA => ?_
    refine sl hA (lo_call fn16 rfl (does_i (hg.mono0 hH) b_v b_t b_m V T N_t N_v N_m hT hV_v hM hI hf (hs.mono (by omega)) (by omega) e (Gl.ngs (Ns1 := [_, _, _]) hg NG.nil hH) (HS.rdM (Ns1 := [_, _, _]) hH he.1) he5.1 (HS.handed (Ns1 := [_, _, _]) hH))) rfl ?_
    rintro _ w ⟨T', V', N_t, N_v, N_m, rfl, hI', hf', hs', hg', hT, hV_v, hM, hC⟩ a hA
    replace hH := HS.call (Ns1 := [_, _, _]) hH hC
    clear hC
    refine sq hA (q_not rfl) rfl fun a hA => ?_
    refine wpList_nil ?_
    refine hK23 _ _ ?_
    clear hK23
    refine cond_f hA rfl ?_
    refine wp_skip ?_
    refine hK15 _ _ ?_
    clear hK15
    refine wp_seq_k fun K24 hK24 => ?_
    refine wp_region_lit ?_
    refine mv hA fun a hA => ?_
    refine mv hA fun a hA => ?_
    replace hH := hH.pick [1, 2, 0] (Hs' := [_, _, _]) rfl
    refine sl hA (lo_call fn14 rfl (same_vm b_v b_t _ N_v hV_v hI'.vok b_m _ _ _ N_m hM hI'.vok.tl (fun y hy => Nat.le_trans (hI'.vok.rl y hy) (by decide)) hI'.vok.rn (HS.handed (Ns1 := [_, _]) hH))) rfl ?_
    rintro _ w ⟨N_v, N_m, rfl, hV_v, hM, hC⟩ a hA
    replace hH := HS.call (Ns1 := [_, _]) hH hC
    clear hC
    replace hA := hA.decT (by first | exact outs_f hI'.vd | exact outs_f hI.vd)
    refine sq hA (q_not rfl) rfl fun a hA => ?_
    refine wpList_nil ?_
    refine hK24 _ _ ?_
    clear hK24
    refine cond_f hA rfl ?_
    refine wp_skip ?_
    refine block_normal ?_
    refine hK14 _ _ ?_
    clear hK14
    refine wp_region_lit ?_
    refine mv hA fun a hA => ?_
    refine sq hA (q_addI (n := 1) rfl rfl (by omega)) rfl fun a hA => ?_
    refine asg hA fun a hA => ?_
    refine wpList_nil ?_
    replace hH := hH.pick [2, 0, 1] (Hs' := [_, _, _]) rfl
    exact ⟨_, by omega, i + 1, b_t, b_v, T', V', N_t, N_v, N_m, hA.sub ⟨rfl, rfl, rfl, rfl, rfl, rfl, trivial⟩, hH, by omega, by first | exact hI' | exact hIx, by first | (rw [hf']; exact hf) | exact hfx, by first | exact (hs' _ hs).mono (by omega) | exact (hsx _ hs).mono (by omega), by omega, by first | exact hT_x | exact hT, by first | exact hV_w | exact hV_v, by exact hM, rfl⟩
  ·skip
   refine wp_exit ?_
   refine then_exit ?_
   refine then_exit ?_
   refine exit_here ?_
   refine hK10 _ _ ?_
   clear hK10
   replace hA := hA.s1 2
   refine wp_seq_k fun K25 hK25 => ?_
   refine wp_region_lit ?_
   refine sl hA (lo_call fn11 rfl (awake12_any (hg.mono0 hH))) rfl ?_
   rintro _ w ⟨rfl, hC⟩ a hA
   replace hH := HS.call0 hH hC
   clear hC
   refine asg hA fun a hA => ?_
   refine wpList_nil ?_
   refine hK25 _ _ ?_
   clear hK25
   replace hA := hA.s1 2
   refine wp_ret ?_
   refine post_ret hA (res_1 rfl hA rfl) ?_
   replace hH := hH.pick [] (Hs' := []) rfl
   exact ⟨_, rfl, rfl, hH⟩

end Go.Proofs.YthhdilafnfcpbaaDoor
