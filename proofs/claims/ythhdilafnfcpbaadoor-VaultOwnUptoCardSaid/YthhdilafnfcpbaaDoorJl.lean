/- Layer 12 (vault): calls where nothing goes wrong. -/
import Derived.Test.YthhdilafnfcpbaaDoorJk
import Derived.Test.YthhdilafnfcpbaaDoorVz
namespace Go.Proofs.YthhdilafnfcpbaaDoor
open Go
set_option linter.unusedVariables false
set_option linter.unusedSimpArgs false
set_option maxRecDepth 100000

theorem open_ok {w0 : World} {lv : Nat} (hg : Gl lv w0) (b_t : Nat) (T : Tp) (N : Hl) (hT : TM 5 76 66 b_t T N) (hB : Rdy T 4000) (hd : T.down = false) (hsz : ∀ i, (T.fs i).now.length ≤ 1000000) (hE : (mend T).1 = 0) (hgM : NG lv (doms [N])) (hH : HS (doms [N]) w0 w0 [N]) :
    Calls Tryd.prog 13 #[(.pointer (some ⟨b_t, 0, none⟩))] w0 (Ret fun r w' => ∃ b_v N' Nv, r = .tuple #[.pointer (some ⟨b_v, 0, none⟩), I 0] ∧ TM 5 76 66 b_t (mend T).2 N' ∧ VM 5 32 68 b_v b_t (opnT T) Nv ∧ HS (doms [N]) w0 w' [N', Nv]) := by
  refine (open_any hg b_t T N hT hB hd hsz hgM hH).mono fun e w' hr => ?_
  obtain ⟨r, h1, N', hT', hy, _⟩ := hr
  obtain ⟨b_v, Nv, h2, hV, hC⟩ := hy hE
  exact ⟨r, h1, b_v, N', Nv, h2, hT', hV, hC⟩
theorem open_i {w0 : World} {lv : Nat} (hg : Gl lv w0) (b_t : Nat) (T : Tp) (N : Hl) (hT : TM 5 76 66 b_t T N) (V : Vs) (hI : Inv T V) (hf : T.fuse < 0) (hsz : Sz T 1000000) (hgM : NG lv (doms [N])) (hH : HS (doms [N]) w0 w0 [N]) :
    Calls Tryd.prog 13 #[(.pointer (some ⟨b_t, 0, none⟩))] w0 (Ret fun r w' => ∃ b_v N' Nv, r = .tuple #[.pointer (some ⟨b_v, 0, none⟩), I 0] ∧ TM 5 76 66 b_t T N' ∧ VM 5 32 68 b_v b_t V Nv ∧ HS (doms [N]) w0 w' [N', Nv]) := by
  have h1 := hI.opn
  have h2 := open_ok hg b_t T N hT ((hI.rdy (by omega)).mono (by decide)) hI.dn hsz (by rw [h1.2]) hgM hH
  rw [h1.1, h1.2] at h2
  exact h2
theorem add_i {w0 : World} {lv : Nat} (hg : Gl lv w0) (b_v b_t : Nat) {V : Vs} {T : Tp} {N Nv : Hl} (hVM : VM 5 32 68 b_v b_t V Nv) (hT : TM 5 76 66 b_t T N) (hI : Inv T V) (hf : T.fuse < 0) (hgM : NG lv (doms [N, Nv])) (u : Value) (l : Bs) (hu : By (doms [N, Nv]) w0 u l) (hl : l.length ≤ 262080) (hroom : (T.fs 0).now.length + l.length + 35 ≤ 1048576) (hH : HS (doms [N, Nv]) w0 w0 [N, Nv]) :
    Calls Tryd.prog 22 #[(.pointer (some ⟨b_v, 0, none⟩)), u] w0 (Ret fun r w' => ∃ T' N' Nv', r = I 0 ∧ Inv T' ⟨V.gen, V.text, V.recs ++ [l], false⟩ ∧ T'.fuse = T.fuse ∧ (∀ B, Sz T B → Sz T' (B + l.length + 35)) ∧ TM 5 76 66 b_t T' N' ∧ VM 5 32 68 b_v b_t ⟨V.gen, V.text, V.recs ++ [l], false⟩ Nv' ∧ HS (doms [N, Nv]) w0 w' [N', Nv']) := by
  refine (add_vm hg b_v b_t V T N Nv hVM hT (fun _ => (hI.rdy (by omega)).mono (by decide)) hI.vok hgM u l hu hH).mono fun e w' hr => ?_
  obtain ⟨r, h1, N', Nv', h2, h3, h4, h5⟩ := hr
  rcases add_inv hI hl hroom with ⟨a1, a2, a3, a4, a5⟩ | ⟨_, _, _, _, _, a6⟩
  · rw [a1] at h2; rw [a2] at h4
    exact ⟨r, h1, _, N', Nv', h2, a3, a5 hf, fun B hB => hB.addV hI.gl, h3, h4, h5⟩
  · exact absurd hf a6
theorem save_i {w0 : World} {lv : Nat} (hg : Gl lv w0) (b_v b_t : Nat) {V : Vs} {T : Tp} {N Nv : Hl} (hVM : VM 5 32 68 b_v b_t V Nv) (hT : TM 5 76 66 b_t T N) (hI : Inv T V) (hf : T.fuse < 0) (hgM : NG lv (doms [N, Nv])) (u : Value) (l : Bs) (hu : By (doms [N, Nv]) w0 u l) (hl : l.length ≤ 262080) (hg40 : V.gen < 1099511627776) (hH : HS (doms [N, Nv]) w0 w0 [N, Nv]) :
    Calls Tryd.prog 24 #[(.pointer (some ⟨b_v, 0, none⟩)), u] w0 (Ret fun r w' => ∃ T' N' Nv', r = I 0 ∧ Inv T' ⟨V.gen + 1, l, [], false⟩ ∧ T'.fuse = T.fuse ∧ (∀ B, Sz T B → Sz T' (B + l.length + 35)) ∧ (T'.fs 0).now = [] ∧ TM 5 76 66 b_t T' N' ∧ VM 5 32 68 b_v b_t ⟨V.gen + 1, l, [], false⟩ Nv' ∧ HS (doms [N, Nv]) w0 w' [N', Nv']) := by
  refine (save_vm hg b_v b_t V T N Nv hVM hT (fun _ => (hI.rdy (by omega)).mono (by decide)) hI.vok hgM u l hu hH).mono fun e w' hr => ?_
  obtain ⟨r, h1, N', Nv', h2, h3, h4, h5⟩ := hr
  rcases save_inv hI hl hg40 with ⟨a1, a2, a3, a4, a5⟩ | ⟨_, _, _, _, _, a6⟩
  · rw [a1] at h2; rw [a2] at h4
    exact ⟨r, h1, _, N', Nv', h2, a3, a5 hf, fun B hB => hB.saveV hI.gl, a4, h3, h4, h5⟩
  · exact absurd hf a6
set_option maxHeartbeats 1000000 in
theorem awake12_any {w0 : World} {lv : Nat} (hg : Gl lv w0)  :
    Calls Tryd.prog 11 #[] w0 (Ret fun r w' => r = .bool true ∧ HS [] w0 w' []) := by
 have hH := HS.start w0
 refine start (n := 58) (E := []) Tryd.func11 rfl rfl rfl (args_look rfl) ?_
 intro a hA
 refine wp_seq_k fun K1 hK1 => ?_
 refine wp_region_lit ?_
 refine asg hA fun a hA => ?_
 refine wpList_nil ?_
 refine hK1 _ _ ?_
 clear hK1
 refine wp_seq_k fun K2 hK2 => ?_
 refine wp_region_lit ?_
 refine sl hA (lo_call fn12 rfl newt_tm) rfl ?_
 rintro _ w ⟨b_t, N_t, rfl, hT, hC⟩ a hA
 replace hH := HS.call0 hH hC
 clear hC
 refine asg hA fun a hA => ?_
 refine wpList_nil ?_
 refine hK2 _ _ ?_
 clear hK2
 replace hA := hA.s2 1 0
 refine wp_seq_k fun K3 hK3 => ?_
 refine wp_region_lit ?_
 refine mv hA fun a hA => ?_
 refine sl hA (lo_call fn13 rfl (open_i (hg.mono0 hH) b_t newT N_t hT newV Inv_new (by decide) (fun i => Nat.zero_le _) (hg.ng NG.nil hH) (HS.handed (Ns1 := [_]) hH))) rfl ?_
 rintro _ w ⟨b_v, N_t, N_v, rfl, hT, hV_v, hC⟩ a hA
 replace hH := HS.call (Ns1 := [_]) hH hC
 clear hC
 refine mv hA fun a hA => ?_
 refine sq hA (q_extract rfl rfl) rfl fun a hA => ?_
 refine sq hA (q_extract rfl rfl) rfl fun a hA => ?_
 refine asg hA fun a hA => ?_
 refine asg hA fun a hA => ?_
 refine wpList_nil ?_
 refine hK3 _ _ ?_
 clear hK3
 replace hA := hA.s4 3 2 1 0
 refine wp_seq_k fun K4 hK4 => ?_
 refine wp_seq_k fun K5 hK5 => ?_
 refine wp_region_lit ?_
 refine mv hA fun a hA => ?_
 refine sq hA (q_neqI (n := 0) rfl rfl) rfl fun a hA => ?_
 replace hA := hA.decF (by exact fun h => h rfl)
 refine mv hA fun a hA => ?_
 refine gq hA rfl rfl (q_move rfl) rfl fun a hA => ?_
 refine gl hA rfl rfl (lo_bs (f := B8) (e := 5) ([97#8]) hH rfl rfl (fun w => by kernel_rfl)) rfl ?_
 clear hH; rintro v_t16 w ⟨N_t16, hO_t16, hH⟩ a hA
 replace hH := hH.pick [1, 2, 0] (Hs' := [_, _, _]) rfl
 refine gl hA rfl rfl (lo_call fn22 rfl (add_i (hg.mono0 hH) b_v b_t hV_v hT Inv_new (by decide) (Gl.ngs (Ns1 := [_, _]) hg NG.nil hH) _ _ (Own.rdM hO_t16 (Ns1 := [_, _]) hH 0 rfl) (by first | omega | (simp; done) | (simp; omega)) (by decide) (HS.handed (Ns1 := [_, _]) hH))) rfl ?_
 rintro _ w ⟨T1, N_t, N_v, rfl, hI_T1, hf_T1, hs_T1, hT, hV_v, hC⟩ a hA
 replace hH := HS.call (Ns1 := [_, _]) hH hC
 clear hC
 refine gq hA rfl rfl (q_neqI (n := 0) rfl rfl) rfl fun a hA => ?_
 replace hA := hA.decF (by exact fun h => h rfl)
 refine sq hA (q_pick_f rfl rfl) rfl fun a hA => ?_
 refine mv hA fun a hA => ?_
 refine gq hA rfl rfl (q_move rfl) rfl fun a hA => ?_
 refine gl hA rfl rfl (lo_bs (f := B8) (e := 5) ([115#8]) hH rfl rfl (fun w => by kernel_rfl)) rfl ?_
 clear hH; rintro v_t22 w ⟨N_t22, hO_t22, hH⟩ a hA
 replace hH := hH.pick [1, 2, 0, 3] (Hs' := [_, _, _, _]) rfl
 refine gl hA rfl rfl (lo_call fn24 rfl (save_i (hg.mono0 hH) b_v b_t hV_v hT hI_T1 (by rw [hf_T1]; decide) (Gl.ngs (Ns1 := [_, _]) hg NG.nil hH) _ _ (Own.rdM hO_t22 (Ns1 := [_, _]) hH 0 rfl) (by first | omega | (simp; done) | (simp; omega)) (by decide) (HS.handed (Ns1 := [_, _]) hH))) rfl ?_
 rintro _ w ⟨T2, N_t, N_v, rfl, hI_T2, hf_T2, hs_T2, hz0_T2, hT, hV_v, hC⟩ a hA
 replace hH := HS.call (Ns1 := [_, _]) hH hC
 clear hC
 refine gq hA rfl rfl (q_neqI (n := 0) rfl rfl) rfl fun a hA => ?_
 replace hA := hA.decF (by exact fun h => h rfl)
 refine sq hA (q_pick_f rfl rfl) rfl fun a hA => ?_
 refine mv hA fun a hA => ?_
 refine gq hA rfl rfl (q_move rfl) rfl fun a hA => ?_
 refine gl hA rfl rfl (lo_bs (f := B8) (e := 5) ([98#8]) hH rfl rfl (fun w => by kernel_rfl)) rfl ?_
 clear hH; rintro v_t28 w ⟨N_t28, hO_t28, hH⟩ a hA
 replace hH := hH.pick [1, 2, 0, 3, 4] (Hs' := [_, _, _, _, _]) rfl
 refine gl hA rfl rfl (lo_call fn22 rfl (add_i (hg.mono0 hH) b_v b_t hV_v hT hI_T2 (by rw [hf_T2, hf_T1]; decide) (Gl.ngs (Ns1 := [_, _]) hg NG.nil hH) _ _ (Own.rdM hO_t28 (Ns1 := [_, _]) hH 0 rfl) (by first | omega | (simp; done) | (simp; omega)) (by rw [hz0_T2]; decide) (HS.handed (Ns1 := [_, _]) hH))) rfl ?_
 rintro _ w ⟨T3, N_t, N_v, rfl, hI_T3, hf_T3, hs_T3, hT, hV_v, hC⟩ a hA
 replace hH := HS.call (Ns1 := [_, _]) hH hC
 clear hC
 refine gq hA rfl rfl (q_neqI (n := 0) rfl rfl) rfl fun a hA => ?_
 replace hA := hA.decF (by exact fun h => h rfl)
 refine sq hA (q_pick_f rfl rfl) rfl fun a hA => ?_
 refine wpList_nil ?_
 refine hK5 _ _ ?_
 clear hK5
 replace hA := hA.s3 31 1 0
 refine cond_f hA rfl ?_
 refine wp_skip ?_
 refine hK4 _ _ ?_
 clear hK4
 replace hA := hA.s2 1 0
 refine wp_seq_k fun K6 hK6 => ?_
 refine wp_region_lit ?_
 refine mv hA fun a hA => ?_
 refine sl hA (lo_call fn15 rfl (crash_tm b_t T3 N_t hT hI_T3.ok (fun i => by rw [hI_T3.op i]; exact Nat.zero_le _) _ _ (show Rm I _ _ nilV [] from By.nilV) (HS.handed (Ns1 := [_]) hH))) rfl ?_
 rintro _ w ⟨b_x, N_t, N_x, rfl, hT, hT_x, hC⟩ a hA
 replace hH := HS.call (Ns1 := [_]) hH hC
 clear hC
 replace hH := hH.pick [1, 0, 2, 3, 4, 5] (Hs' := [_, _, _, _, _, _]) rfl
 refine sl hA (lo_call fn13 rfl (open_i (hg.mono0 hH) b_x (T3.crash []) N_x hT_x _ (hI_T3.crash []) (show (-1 : Int) < 0 by decide) ((Sz.crash hI_T3 (hs_T3 _ (hs_T2 _ (hs_T1 0 (fun i => Nat.zero_le _)))) []).mono (by decide)) (hg.ng NG.nil hH) (HS.handed (Ns1 := [_]) hH))) rfl ?_
 rintro _ w ⟨b_w, N_x, N_w, rfl, hT_x, hV_w, hC⟩ a hA
 replace hH := HS.call (Ns1 := [_]) hH hC
 clear hC
 have hO3 : VOk ⟨1, [115#8], [[98#8]], false⟩ := (hI_T3.crash []).vok
 replace hV_w : VM 5 32 68 b_w b_x ⟨1, [115#8], [[98#8]], false⟩ N_w := hV_w
 refine mv hA fun a hA => ?_
 refine sq hA (q_extract rfl rfl) rfl fun a hA => ?_
 refine sq hA (q_extract rfl rfl) rfl fun a hA => ?_
 refine asg hA fun a hA => ?_
 refine asg hA fun a hA => ?_
 refine wpList_nil ?_
 refine hK6 _ _ ?_
 clear hK6
 replace hA := hA.s3 5 4 0
 refine wp_seq_k fun K7 hK7 => ?_
 refine wp_region_lit ?_
 refine mv hA fun a hA => ?_
 refine sq hA (q_eqlI (n := 0) rfl rfl) rfl fun a hA => ?_
 replace hA := hA.decT (by first | rfl | omega | assumption | (simp; done) | (simp [*]; done))
 refine mv hA fun a hA => ?_
 refine gq hA rfl rfl (q_move rfl) rfl fun a hA => ?_
 replace hH := hH.pick [1, 0, 2, 3, 4, 5, 6] (Hs' := [_, _, _, _, _, _, _]) rfl
 refine gl hA rfl rfl (lo_call fn25 rfl (gen_vm b_w b_x _ N_w hV_w hO3 (HS.handed (Ns1 := [_]) hH))) rfl ?_
 rintro _ w ⟨N_w, rfl, hV_w, hC⟩ a hA
 replace hH := HS.call (Ns1 := [_]) hH hC
 clear hC
 replace hA := hA
 refine gq hA rfl rfl (q_eqlI (n := 1) rfl rfl) rfl fun a hA => ?_
 refine sq hA (q_pick_t rfl rfl) rfl fun a hA => ?_
 replace hA := hA.decT (by first | rfl | omega | assumption | (simp; done) | (simp [*]; done))
 refine mv hA fun a hA => ?_
 refine gq hA rfl rfl (q_move rfl) rfl fun a hA => ?_
 refine gl hA rfl rfl (lo_call fn26 rfl (text_vm b_w b_x _ N_w hV_w hO3 (HS.handed (Ns1 := [_]) hH))) rfl ?_
 rintro _ w ⟨v_t47, N_t47, N_w, rfl, hO_t47, hV_w, hC⟩ a hA
 replace hH := HS.call (Ns1 := [_]) hH hC
 clear hC
 replace hO_t47 : Ow B8 5 v_t47 [115#8] N_t47 := hO_t47
 refine gl hA rfl rfl (lo_bs (f := B8) (e := 5) ([115#8]) hH rfl rfl (fun w => by kernel_rfl)) rfl ?_
 clear hH; rintro v_t48 w ⟨N_t48, hO_t48, hH⟩ a hA
 refine gl hA rfl rfl (lo_call fn21 rfl (same_any _ _ _ _ (Own.rd0 hO_t47 hH 2 rfl) (Own.rd0 hO_t48 hH 0 rfl) (by first | omega | (simp; done) | (simp; omega)) (by first | omega | (simp; done) | (simp; omega)))) rfl ?_
 rintro _ w ⟨rfl, hC⟩ a hA
 replace hH := HS.call0 hH hC
 clear hC
 refine sq hA (q_pick_t rfl rfl) rfl fun a hA => ?_
 replace hA := hA.decT (by first | rfl | omega | assumption | (simp; done) | (simp [*]; done))
 refine mv hA fun a hA => ?_
 refine gq hA rfl rfl (q_move rfl) rfl fun a hA => ?_
 replace hH := hH.pick [1, 0, 2, 3, 4, 5, 6, 7, 8] (Hs' := [_, _, _, _, _, _, _, _, _]) rfl
 refine gl hA rfl rfl (lo_call fn23 rfl (recs_vm b_w b_x _ N_w hV_w hO3 (HS.handed (Ns1 := [_]) hH))) rfl ?_
 rintro _ w ⟨v_t53, N_t53, N_dt53, N_w, rfl, hR_t53, hV_w, hC⟩ a hA
 replace hH := HS.call (Ns1 := [_]) hH hC
 clear hC
 replace hR_t53 : RowsH 32 v_t53 [[98#8]] N_t53 N_dt53 := hR_t53
 refine gl hA rfl rfl (lo_bs (f := B8) (e := 5) ([98#8]) hH rfl rfl (fun w => by kernel_rfl)) rfl ?_
 clear hH; rintro v_t54 w ⟨N_t54, hO_t54, hH⟩ a hA
 refine gl hA rfl rfl (lo_build1 hH Tryd.underlying33 ti32 rfl rfl (Own.one hO_t54)) rfl ?_
 clear hH; rintro v_t55 w ⟨N_t55, hO_t55, hH⟩ a hA
 refine gl hA rfl rfl (lo_call fn31 rfl (sameR_any _ _ _ _ (RowsH.rdR hR_t53 hH 3 4 rfl rfl) (RdR.one (Own.rd0 hO_t55 hH 0 rfl) (Own.rd0 hO_t54 hH 1 rfl)) (by first | omega | (simp; done) | (simp; omega)) (by first | omega | (simp; done) | (simp; omega)) (by first | assumption | (simp; done) | (intro y hy; simp at hy; subst hy; decide)) (by first | assumption | (simp; done) | (intro y hy; simp at hy; subst hy; decide)))) rfl ?_
 rintro _ w ⟨rfl, hC⟩ a hA
 replace hH := HS.call0 hH hC
 clear hC
 refine sq hA (q_pick_t rfl rfl) rfl fun a hA => ?_
 refine asg hA fun a hA => ?_
 refine wpList_nil ?_
 refine hK7 _ _ ?_
 clear hK7
 replace hA := hA.s1 0
 refine wp_ret ?_
 refine post_ret hA (res_1 rfl hA rfl) ?_
 replace hH := hH.pick [] (Hs' := []) rfl
 exact ⟨_, rfl, rfl, hH⟩

end Go.Proofs.YthhdilafnfcpbaaDoor
