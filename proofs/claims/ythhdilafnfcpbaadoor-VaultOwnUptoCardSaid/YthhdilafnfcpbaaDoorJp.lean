/- Layer 12 (vault): the same on both sides. -/
import Derived.Test.YthhdilafnfcpbaaDoorJn
namespace Go.Proofs.YthhdilafnfcpbaaDoor
open Go
set_option linter.unusedVariables false
set_option linter.unusedSimpArgs false
set_option maxRecDepth 100000

theorem same12_any {w0 : World} (b_v b_t : Nat) (V : Vs) (N_v0 : Hl) (hV_v : VM 5 32 68 b_v b_t V N_v0) (hO : VOk V) (b_m g : Nat) (x rr : Value) (text : Bs) (recs : List Bs) (N_mx N_mo N_md : Hl) (hO_mx : Ow B8 5 x text N_mx) (hR_m : RowsH 32 rr recs N_mo N_md) (htl : text.length ≤ 262144) (hrl : ∀ y ∈ recs, y.length ≤ 4194304) (hrn : recs.length ≤ 1000000) (hH : HS (doms [N_v0, [(b_m, Obj.cells (mC g x rr).toArray 35 (0, 0))], N_mo, N_md, N_mx]) w0 w0 [N_v0, [(b_m, Obj.cells (mC g x rr).toArray 35 (0, 0))], N_mo, N_md, N_mx]) :
    Calls Tryd.prog 14 #[(.pointer (some ⟨b_v, 0, none⟩)), (.pointer (some ⟨b_m, 0, none⟩))] w0 (Ret fun r w' => ∃ N', r = .bool (decide (genO V = g ∧ textO V = text ∧ recsO V = recs)) ∧ VM 5 32 68 b_v b_t V N' ∧ HS (doms [N_v0, [(b_m, Obj.cells (mC g x rr).toArray 35 (0, 0))], N_mo, N_md, N_mx]) w0 w' [N', [(b_m, Obj.cells (mC g x rr).toArray 35 (0, 0))], N_mo, N_md, N_mx]) := by
 refine start (n := 30) (E := [(0, _), (1, _)]) Tryd.func14 rfl rfl rfl (args_look rfl) ?_
 intro a hA
 obtain ⟨ho1, ho2, ho3⟩ := outs_len hO
 refine wp_seq_k fun K1 hK1 => ?_
 refine wp_region_lit ?_
 refine asg hA fun a hA => ?_
 refine wpList_nil ?_
 refine hK1 _ _ ?_
 clear hK1
 refine wp_seq_k fun K2 hK2 => ?_
 refine any_goI mixed [1, 2, 3, 4] (Hs' := [_, _, _, _]) rfl (fun _ => true) hH ?_
 clear hH; intro w hH hS
 refine any_l 26 ?_
 refine p0 hA 0 1 rfl (fun w => (q_move rfl)) fun a hA => ?_
 refine p0 hA 2 5 rfl (fun w => (q_move rfl)) fun a hA => ?_
 refine p0 hA 3 13 rfl (fun w => (q_nilCheck rfl)) fun a hA => ?_
 refine p0 hA 4 29 rfl (fun w => (q_fld 0 Tryd.underlying35 rfl rfl ti3 rfl)) fun a hA => ?_
 refine r0 hA 5 61 rfl hS (fun w hH => (q_loadB hH 0 rfl (List.mem_singleton.2 rfl) Tryd.underlying3 rfl rfl rfl)) fun a hA => ?_
 refine a1 hA 1 63 rfl (lo_call fn25 rfl (gen_vm b_v b_t V _ hV_v hO (HS.handed (Ns1 := [_]) hH))) ?_
 rintro _ w ⟨N_v, rfl, hV_v, hC⟩
 replace hH := HS.call (Ns1 := [_]) hH hC
 clear hC
 replace hS := hH.pick [1, 2, 3, 4] (Hs' := [_, _, _, _]) rfl
 refine ⟨fun _ _ => hS, ?_⟩
 intro a hA
 refine p0 hA 6 127 rfl (fun w => (q_eqlI rfl rfl)) fun a hA => ?_
 refine hA.spl (fun hs11 hA => ?_) (fun hs11 hA => ?_)
 ·skip
  refine p0 hA 7 255 rfl (fun w => (q_move rfl)) fun a hA => ?_
  refine pg hA 8 511 rfl rfl rfl (fun w => (q_move rfl)) fun a hA => ?_
  refine pg hA 10 1535 rfl rfl rfl (fun w => (q_move rfl)) fun a hA => ?_
  refine pg hA 11 3583 rfl rfl rfl (fun w => (q_nilCheck rfl)) fun a hA => ?_
  refine pg hA 12 7679 rfl rfl rfl (fun w => (q_fld 1 Tryd.underlying35 rfl rfl ti32 rfl)) fun a hA => ?_
  refine rg hA 13 15871 rfl rfl rfl hS (fun w hH => (q_loadB hH 0 rfl (List.mem_singleton.2 rfl) Tryd.underlying32 rfl rfl rfl)) fun a hA => ?_
  refine g1 hA 9 16383 rfl rfl rfl (lo_call fn26 rfl (text_vm b_v b_t V _ hV_v hO (HS.handed (Ns1 := [_]) hH))) ?_
  rintro _ w ⟨v_t14, N_t14, N_v, rfl, hO_t14, hV_v, hC⟩
  replace hH := HS.call (Ns1 := [_]) hH hC
  clear hC
  replace hS := hH.pick [2, 3, 4, 5] (Hs' := [_, _, _, _]) rfl
  refine ⟨fun _ _ => hS, ?_⟩
  intro a hA
  refine g1 hA 14 32767 rfl rfl rfl (lo_call fn21 rfl (same_any _ _ _ _ (Own.rd0 hO_t14 hH 1 rfl) (Own.rd0 hO_mx hH 5 rfl) (by first | omega | (simp; done) | (simp; omega)) (by first | omega | (simp; done) | (simp; omega)))) ?_
  rintro _ w ⟨rfl, hC⟩
  replace hH := HS.call0 hH hC
  clear hC
  replace hS := hH.pick [2, 3, 4, 5] (Hs' := [_, _, _, _]) rfl
  refine ⟨fun _ _ => hS, ?_⟩
  intro a hA
  refine p0 hA 15 65535 rfl (fun w => (q_pick_t rfl rfl)) fun a hA => ?_
  refine hA.spl (fun hs20 hA => ?_) (fun hs20 hA => ?_)
  ·skip
   refine p0 hA 16 131071 rfl (fun w => (q_move rfl)) fun a hA => ?_
   refine pg hA 17 262143 rfl rfl rfl (fun w => (q_move rfl)) fun a hA => ?_
   refine pg hA 19 786431 rfl rfl rfl (fun w => (q_move rfl)) fun a hA => ?_
   refine pg hA 20 1835007 rfl rfl rfl (fun w => (q_nilCheck rfl)) fun a hA => ?_
   refine pg hA 21 3932159 rfl rfl rfl (fun w => (q_fld 2 Tryd.underlying35 rfl rfl ti33 rfl)) fun a hA => ?_
   refine rg hA 22 8126463 rfl rfl rfl hS (fun w hH => (q_loadB hH 0 rfl (List.mem_singleton.2 rfl) Tryd.underlying33 rfl rfl rfl)) fun a hA => ?_
   refine g1 hA 18 8388607 rfl rfl rfl (lo_call fn23 rfl (recs_vm b_v b_t V _ hV_v hO (HS.handed (Ns1 := [_]) hH))) ?_
   rintro _ w ⟨v_t23, N_t23, N_dt23, N_v, rfl, hR_t23, hV_v, hC⟩
   replace hH := HS.call (Ns1 := [_]) hH hC
   clear hC
   replace hS := hH.pick [4, 5, 6, 7] (Hs' := [_, _, _, _]) rfl
   refine ⟨fun _ _ => hS, ?_⟩
   intro a hA
   refine g1 hA 23 16777215 rfl rfl rfl (lo_call fn31 rfl (sameR_any _ _ _ _ (RowsH.rdR hR_t23 hH 1 2 rfl rfl) (RowsH.rdR hR_m hH 5 6 rfl rfl) (by first | omega | (simp; done) | (simp; omega)) (by first | omega | (simp; done) | (simp; omega)) (by first | assumption | (simp; done) | (intro y hy; simp at hy; subst hy; decide)) (by first | assumption | (simp; done) | (intro y hy; simp at hy; subst hy; decide)))) ?_
   rintro _ w ⟨rfl, hC⟩
   replace hH := HS.call0 hH hC
   clear hC
   replace hS := hH.pick [4, 5, 6, 7] (Hs' := [_, _, _, _]) rfl
   refine ⟨fun _ _ => hS, ?_⟩
   intro a hA
   refine p0 hA 24 33554431 rfl (fun w => (q_pick_t rfl rfl)) fun a hA => ?_
   refine p0 hA 25 67108863 rfl (fun w => (q_assign rfl)) fun a hA => ?_
   refine a_end (by kernel_rfl) ?_ _
   refine hK2 _ _ ?_
   clear hK2
   replace hA := hA.s1 4
   refine wp_ret ?_
   refine post_ret hA (res_1 rfl hA rfl) ?_
   replace hH := hH.pick [0, 4, 5, 6, 7, 1, 2, 3] (Hs' := [_, _, _, _, _, _, _, _]) rfl
   replace hH := hH.pick [0, 1, 2, 3, 4] (Hs' := [_, _, _, _, _]) rfl
   refine ⟨_, rfl, N_v, ?_, hV_v, hH⟩
   congr 1
   symm
   first | exact decide_eq_false (fun hV => by obtain ⟨h1, h2, h3⟩ := hV; first | contradiction | omega) | exact decide_eq_decide.2 ⟨fun hV => hV.2.2, fun hV => ⟨by omega, by assumption, hV⟩⟩
  ·skip
   refine p0 hA 16 131071 rfl (fun w => (q_move rfl)) fun a hA => ?_
   refine ps hA 17 262143 rfl rfl rfl fun a hA => ?_
   refine ps hA 19 786431 rfl rfl rfl fun a hA => ?_
   refine ps hA 20 1835007 rfl rfl rfl fun a hA => ?_
   refine ps hA 21 3932159 rfl rfl rfl fun a hA => ?_
   refine ps hA 22 8126463 rfl rfl rfl fun a hA => ?_
   refine ps hA 18 8388607 rfl rfl rfl fun a hA => ?_
   refine ps hA 23 16777215 rfl rfl rfl fun a hA => ?_
   refine p0 hA 24 33554431 rfl (fun w => (q_pick_f rfl rfl)) fun a hA => ?_
   refine p0 hA 25 67108863 rfl (fun w => (q_assign rfl)) fun a hA => ?_
   refine a_end (by kernel_rfl) ?_ _
   refine hK2 _ _ ?_
   clear hK2
   replace hA := hA.s1 4
   refine wp_ret ?_
   refine post_ret hA (res_1 rfl hA rfl) ?_
   replace hH := hH.pick [0, 2, 3, 4, 5, 1] (Hs' := [_, _, _, _, _, _]) rfl
   replace hH := hH.pick [0, 1, 2, 3, 4] (Hs' := [_, _, _, _, _]) rfl
   refine ⟨_, rfl, N_v, ?_, hV_v, hH⟩
   congr 1
   symm
   first | exact decide_eq_false (fun hV => by obtain ⟨h1, h2, h3⟩ := hV; first | contradiction | omega) | exact decide_eq_decide.2 ⟨fun hV => hV.2.2, fun hV => ⟨by omega, by assumption, hV⟩⟩
 ·skip
  refine p0 hA 7 255 rfl (fun w => (q_move rfl)) fun a hA => ?_
  refine ps hA 8 511 rfl rfl rfl fun a hA => ?_
  refine ps hA 10 1535 rfl rfl rfl fun a hA => ?_
  refine ps hA 11 3583 rfl rfl rfl fun a hA => ?_
  refine ps hA 12 7679 rfl rfl rfl fun a hA => ?_
  refine ps hA 13 15871 rfl rfl rfl fun a hA => ?_
  refine ps hA 9 16383 rfl rfl rfl fun a hA => ?_
  refine ps hA 14 32767 rfl rfl rfl fun a hA => ?_
  refine p0 hA 15 65535 rfl (fun w => (q_pick_f rfl rfl)) fun a hA => ?_
  refine p0 hA 16 131071 rfl (fun w => (q_move rfl)) fun a hA => ?_
  refine ps hA 17 262143 rfl rfl rfl fun a hA => ?_
  refine ps hA 19 786431 rfl rfl rfl fun a hA => ?_
  refine ps hA 20 1835007 rfl rfl rfl fun a hA => ?_
  refine ps hA 21 3932159 rfl rfl rfl fun a hA => ?_
  refine ps hA 22 8126463 rfl rfl rfl fun a hA => ?_
  refine ps hA 18 8388607 rfl rfl rfl fun a hA => ?_
  refine ps hA 23 16777215 rfl rfl rfl fun a hA => ?_
  refine p0 hA 24 33554431 rfl (fun w => (q_pick_f rfl rfl)) fun a hA => ?_
  refine p0 hA 25 67108863 rfl (fun w => (q_assign rfl)) fun a hA => ?_
  refine a_end (by kernel_rfl) ?_ _
  refine hK2 _ _ ?_
  clear hK2
  replace hA := hA.s1 4
  refine wp_ret ?_
  refine post_ret hA (res_1 rfl hA rfl) ?_
  refine ⟨_, rfl, N_v, ?_, hV_v, hH⟩
  congr 1
  symm
  first | exact decide_eq_false (fun hV => by obtain ⟨h1, h2, h3⟩ := hV; first | contradiction | omega) | exact decide_eq_decide.2 ⟨fun hV => hV.2.2, fun hV => ⟨by omega, by assumption, hV⟩⟩

theorem same_vm {w0 : World} (b_v b_t : Nat) (V : Vs) (Nv : Hl) (hV_v : VM 5 32 68 b_v b_t V Nv) (hO : VOk V) (b_m g : Nat) (text : Bs) (recs : List Bs) (Nm : Hl) (hMM : MM 5 32 35 b_m g text recs Nm) (htl : text.length ≤ 262144) (hrl : ∀ y ∈ recs, y.length ≤ 4194304) (hrn : recs.length ≤ 1000000) (hH : HS (doms [Nv, Nm]) w0 w0 [Nv, Nm]) :
    Calls Tryd.prog 14 #[(.pointer (some ⟨b_v, 0, none⟩)), (.pointer (some ⟨b_m, 0, none⟩))] w0 (Ret fun r w' => ∃ N' Nm', r = .bool (decide (genO V = g ∧ textO V = text ∧ recsO V = recs)) ∧ VM 5 32 68 b_v b_t V N' ∧ MM 5 32 35 b_m g text recs Nm' ∧ HS (doms [Nv, Nm]) w0 w' [N', Nm']) := by
  obtain ⟨x, rr, Nx, No, Nd, rfl, hx, hR⟩ := hMM
  have h4 := vsplit hH
  refine (same12_any b_v b_t V Nv hV_v hO b_m g x rr text recs Nx No Nd hx hR htl hrl hrn (HS.handed (Ns1 := [_, _, _, _, _]) h4)).mono fun e w' hr => ?_
  obtain ⟨r, h1, N', h2, h3, hC⟩ := hr
  have h7 := HS.call (Ns1 := [_, _, _, _, _]) h4 hC
  exact ⟨r, h1, N', _, h2, h3, ⟨x, rr, Nx, No, Nd, rfl, hx, hR⟩, vjoin h7⟩
theorem madd_mm {w0 : World} (b_m g : Nat) (text : Bs) (recs : List Bs) (Nm : Hl) (hMM : MM 5 32 35 b_m g text recs Nm) (hrn : recs.length ≤ 1000000) (v : Value) (l : Bs) (hr : By (doms [Nm]) w0 v l) (hl : l.length ≤ 262080) (hH : HS (doms [Nm]) w0 w0 [Nm]) :
    Calls Tryd.prog 28 #[(.pointer (some ⟨b_m, 0, none⟩)), v] w0 (Ret fun r w' => ∃ N', r = I 0 ∧ MM 5 32 35 b_m g text (recs ++ [l]) N' ∧ HS (doms [Nm]) w0 w' [N']) := by
  obtain ⟨x, rr, Nx, No, Nd, rfl, hx, hR⟩ := hMM
  have h4 := (vsplit hH.nilFront).pick [1, 2, 3, 4, 0] (Hs' := [_, No, Nd, Nx, []]) rfl
  refine (refadd_any b_m g x rr recs No Nd hR (by omega) v l (HS.rdM (Ns1 := [_, _, _]) h4 hr) hl (HS.handed (Ns1 := [_, _, _]) h4)).mono fun e w' hr => ?_
  obtain ⟨r, h1, rq, No', Nd', h2, h3, hC⟩ := hr
  have h7 := (HS.call (Ns1 := [_, _, _]) h4 hC).pick [4, 0, 1, 2, 3] (Hs' := [[], _, No', Nd', Nx]) rfl
  exact ⟨r, h1, _, h2, ⟨x, rq, Nx, No', Nd', rfl, hx, h3⟩, (vjoin h7).pick [1] (Hs' := [_]) rfl⟩
theorem msave_mm {w0 : World} (b_m g : Nat) (text : Bs) (recs : List Bs) (Nm : Hl) (hMM : MM 5 32 35 b_m g text recs Nm) (hg40 : g < 1099511627776) (v : Value) (l : Bs) (hr : By (doms [Nm]) w0 v l) (hl : l.length ≤ 262080) (hH : HS (doms [Nm]) w0 w0 [Nm]) :
    Calls Tryd.prog 27 #[(.pointer (some ⟨b_m, 0, none⟩)), v] w0 (Ret fun r w' => ∃ N', r = I 0 ∧ MM 5 32 35 b_m (g + 1) l [] N' ∧ HS (doms [Nm]) w0 w' [N']) := by
  obtain ⟨x, rr, Nx, No, Nd, rfl, hx, hR⟩ := hMM
  have h4 := (vsplit hH.nilFront).pick [1, 2, 3, 4, 0] (Hs' := [_, No, Nd, Nx, []]) rfl
  refine (refsave_any b_m g hg40 x rr v l (HS.rdM (Ns1 := [_]) h4 hr) hl (HS.handed (Ns1 := [_]) h4)).mono fun e w' hr => ?_
  obtain ⟨r, h1, x', Nx', h2, h3, hC⟩ := hr
  have h7 := ((HS.call (Ns1 := [_]) h4 hC).pick [0, 1] (Hs' := [_, _]) rfl).nilFront.nilFront.nilFront.pick [0, 3, 1, 2, 4] (Hs' := [[], _, [], [], Nx']) rfl
  exact ⟨r, h1, _, h2, ⟨x', nilV, Nx', [], [], rfl, h3, RowsH.nil _⟩, (vjoin h7).pick [1] (Hs' := [_]) rfl⟩
end Go.Proofs.YthhdilafnfcpbaaDoor
