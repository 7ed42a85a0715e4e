/- Layer 12 (vault): a vault as one piece of memory. -/
import Derived.Test.YthhdilafnfcpbaaDoorJj
import Derived.Test.YthhdilafnfcpbaaDoorVz
namespace Go.Proofs.YthhdilafnfcpbaaDoor
open Go
set_option linter.unusedVariables false
set_option linter.unusedSimpArgs false
set_option maxRecDepth 100000

theorem add_vm {w0 : World} {lv : Nat} (hg : Gl lv w0) (b_v b_t : Nat) (V : Vs) (T : Tp) (N Nv : Hl) (hVM : VM 5 32 68 b_v b_t V Nv) (hT : TM 5 76 66 b_t T N) (hB : V.down = false → Rdy T 4000) (hO : VOk V) (hgM : NG lv (doms [N, Nv])) (u : Value) (l : Bs) (hu : By (doms [N, Nv]) w0 u l) (hH : HS (doms [N, Nv]) w0 w0 [N, Nv]) :
    Calls Tryd.prog 22 #[(.pointer (some ⟨b_v, 0, none⟩)), u] w0 (Ret fun r w' => ∃ N' Nv', r = I (addV T V l).1 ∧ TM 5 76 66 b_t (addV T V l).2.1 N' ∧ VM 5 32 68 b_v b_t (addV T V l).2.2 Nv' ∧ HS (doms [N, Nv]) w0 w' [N', Nv']) := by
  obtain ⟨x, rr, Nx, No, Nd, rfl, hx, hR⟩ := hVM
  have h4 := vsplit hH
  rcases hd : V.down with _ | _
  · rw [hd] at h4 hu hgM
    have h5 := h4.pick [1, 0, 2, 3, 4] (Hs' := [_, N, No, Nd, Nx]) rfl
    by_cases h2 : 262080 < l.length
    · refine (add_long b_v b_t V.gen x rr u l (HS.rdM (Ns1 := [_]) h5 hu) h2 (HS.handed (Ns1 := [_]) h5)).mono fun e w' hr => ?_
      obtain ⟨r, h1, h2', hC⟩ := hr
      have h7 := (HS.call (Ns1 := [_]) h5 hC).pick [1, 0, 2, 3, 4] (Hs' := [_, _, _, _, _]) rfl
      rw [addV_2 hd h2]
      exact ⟨r, h1, N, _, h2', hT, ⟨x, rr, Nx, No, Nd, by rw [hd], hx, hR⟩, vjoin h7⟩
    · refine (add_any hg b_v b_t V.gen x rr u l T N hT (hB hd) V.recs No Nd hR (by have := hO.rn; omega) (Gl.ngs (Ns1 := [_, _, _, _]) hg hgM h4) (HS.rdM (Ns1 := [_, _, _, _]) h4 hu) (by omega) hO.gl (HS.handed (Ns1 := [_, _, _, _]) h4)).mono fun e w' hr => ?_
      obtain ⟨r, h1, N', rq, No', Nd', h3, hT', hR', hC⟩ := hr
      have h7 := HS.call (Ns1 := [_, _, _, _]) h4 hC
      rw [addV_3 hd h2]
      refine ⟨r, h1, N', _, h3, hT', ?_, vjoin h7⟩
      by_cases hE : (addS V.gen l T).1 = 0
      · rw [if_pos hE] at hR' ⊢
        exact ⟨x, rq, Nx, No', Nd', by rw [hE]; rfl, hx, hR'⟩
      · rw [if_neg hE] at hR' ⊢
        exact ⟨x, rq, Nx, No', Nd', rfl, hx, hR'⟩
  · rw [hd] at h4 hu hgM
    have h5 := h4.pick [1, 0, 2, 3, 4] (Hs' := [_, N, No, Nd, Nx]) rfl
    refine (add_down b_v b_t V.gen x rr u (Rd.one hu) (HS.handed (Ns1 := [_]) h5)).mono fun e w' hr => ?_
    obtain ⟨r, h1, h2', hC⟩ := hr
    have h7 := (HS.call (Ns1 := [_]) h5 hC).pick [1, 0, 2, 3, 4] (Hs' := [_, _, _, _, _]) rfl
    rw [addV_1 hd]
    exact ⟨r, h1, N, _, h2', hT, ⟨x, rr, Nx, No, Nd, by rw [hd], hx, hR⟩, vjoin h7⟩
theorem save_vm {w0 : World} {lv : Nat} (hg : Gl lv w0) (b_v b_t : Nat) (V : Vs) (T : Tp) (N Nv : Hl) (hVM : VM 5 32 68 b_v b_t V Nv) (hT : TM 5 76 66 b_t T N) (hB : V.down = false → Rdy T 4000) (hO : VOk V) (hgM : NG lv (doms [N, Nv])) (u : Value) (l : Bs) (hu : By (doms [N, Nv]) w0 u l) (hH : HS (doms [N, Nv]) w0 w0 [N, Nv]) :
    Calls Tryd.prog 24 #[(.pointer (some ⟨b_v, 0, none⟩)), u] w0 (Ret fun r w' => ∃ N' Nv', r = I (saveV T V l).1 ∧ TM 5 76 66 b_t (saveV T V l).2.1 N' ∧ VM 5 32 68 b_v b_t (saveV T V l).2.2 Nv' ∧ HS (doms [N, Nv]) w0 w' [N', Nv']) := by
  obtain ⟨x, rr, Nx, No, Nd, rfl, hx, hR⟩ := hVM
  have h4 := vsplit hH
  rcases hd : V.down with _ | _
  · rw [hd] at h4 hu hgM
    have h5 := h4.pick [1, 0, 2, 3, 4] (Hs' := [_, N, No, Nd, Nx]) rfl
    by_cases h2 : 262080 < l.length
    · refine (save_long b_v b_t V.gen x rr u l (HS.rdM (Ns1 := [_]) h5 hu) h2 (HS.handed (Ns1 := [_]) h5)).mono fun e w' hr => ?_
      obtain ⟨r, h1, h2', hC⟩ := hr
      have h7 := (HS.call (Ns1 := [_]) h5 hC).pick [1, 0, 2, 3, 4] (Hs' := [_, _, _, _, _]) rfl
      rw [saveV_2 hd h2]
      exact ⟨r, h1, N, _, h2', hT, ⟨x, rr, Nx, No, Nd, by rw [hd], hx, hR⟩, vjoin h7⟩
    by_cases h3 : V.gen = 1099511627776
    · refine (save_full b_v b_t V.gen x rr u l (HS.rdM (Ns1 := [_]) h5 hu) (by omega) h3 (HS.handed (Ns1 := [_]) h5)).mono fun e w' hr => ?_
      obtain ⟨r, h1, h2', hC⟩ := hr
      have h7 := (HS.call (Ns1 := [_]) h5 hC).pick [1, 0, 2, 3, 4] (Hs' := [_, _, _, _, _]) rfl
      rw [saveV_3 hd h2 h3]
      exact ⟨r, h1, N, _, h2', hT, ⟨x, rr, Nx, No, Nd, by rw [hd], hx, hR⟩, vjoin h7⟩
    · have hgl := hO.gl
      refine (save_any hg b_v b_t V.gen x rr u l T N hT (hB hd) (Gl.ngs (Ns1 := [_, _]) hg hgM h4) (HS.rdM (Ns1 := [_, _]) h4 hu) (by omega) (by omega) (HS.handed (Ns1 := [_, _]) h4)).mono fun e w' hr => ?_
      obtain ⟨r, h1, N', h5', hT', hyes, hno⟩ := hr
      rw [saveV_4 hd h2 h3]
      by_cases hE : (saveS (V.gen + 1) l T).1 = 0
      · obtain ⟨x', Nx', hx', hC⟩ := hyes hE
        have h7 := (HS.call (Ns1 := [_, _]) h4 hC).pick [0, 1, 2] (Hs' := [_, _, _]) rfl
        have h8 := (h7.nilFront.nilFront.pick [2, 3, 0, 1, 4] (Hs' := [N', _, [], [], Nx']) rfl)
        refine ⟨r, h1, N', _, h5', hT', ?_, vjoin h8⟩
        rw [if_pos hE]
        exact ⟨x', nilV, Nx', [], [], rfl, hx', RowsH.nil _⟩
      · have h7 := HS.call (Ns1 := [_, _]) h4 (hno hE)
        refine ⟨r, h1, N', _, h5', hT', ?_, vjoin h7⟩
        rw [if_neg hE]
        exact ⟨x, rr, Nx, No, Nd, rfl, hx, hR⟩
  · rw [hd] at h4 hu hgM
    have h5 := h4.pick [1, 0, 2, 3, 4] (Hs' := [_, N, No, Nd, Nx]) rfl
    refine (save_down b_v b_t V.gen x rr u (Rd.one hu) (HS.handed (Ns1 := [_]) h5)).mono fun e w' hr => ?_
    obtain ⟨r, h1, h2', hC⟩ := hr
    have h7 := (HS.call (Ns1 := [_]) h5 hC).pick [1, 0, 2, 3, 4] (Hs' := [_, _, _, _, _]) rfl
    rw [saveV_1 hd]
    exact ⟨r, h1, N, _, h2', hT, ⟨x, rr, Nx, No, Nd, by rw [hd], hx, hR⟩, vjoin h7⟩
theorem gen_vm {w0 : World} (b_v b_t : Nat) (V : Vs) (Nv : Hl) (hVM : VM 5 32 68 b_v b_t V Nv) (hO : VOk V) (hH : HS (doms [Nv]) w0 w0 [Nv]) :
    Calls Tryd.prog 25 #[(.pointer (some ⟨b_v, 0, none⟩))] w0 (Ret fun r w' => ∃ Nv', r = I (genO V) ∧ VM 5 32 68 b_v b_t V Nv' ∧ HS (doms [Nv]) w0 w' [Nv']) := by
  obtain ⟨x, rr, Nx, No, Nd, rfl, hx, hR⟩ := hVM
  have h4 := (vsplit (hH.nilFront)).pick [1, 2, 3, 4, 0] (Hs' := [_, No, Nd, Nx, []]) rfl
  have htl := hO.tl
  have hrn := hO.rn
  rcases hd : V.down with _ | _
  · rw [hd] at h4
    refine (gen_f b_v b_t V.gen x rr (HS.handed (Ns1 := [_]) h4)).mono fun e w' hr => ?_
    obtain ⟨r, h1, h2, hC⟩ := hr
    have h7 := HS.call (Ns1 := [_]) h4 hC
    exact ⟨r, h1, _, by rw [(outs_f hd).1]; exact h2, ⟨x, rr, Nx, No, Nd, by rw [hd], hx, hR⟩, (vjoin (h7.pick [4, 0, 1, 2, 3] (Hs' := [_, _, _, _, _]) rfl)).pick [1] (Hs' := [_]) rfl⟩
  · rw [hd] at h4
    refine (gen_t b_v b_t V.gen x rr (HS.handed (Ns1 := [_]) h4)).mono fun e w' hr => ?_
    obtain ⟨r, h1, h2, hC⟩ := hr
    have h7 := HS.call (Ns1 := [_]) h4 hC
    exact ⟨r, h1, _, by rw [(outs_t hd).1]; exact h2, ⟨x, rr, Nx, No, Nd, by rw [hd], hx, hR⟩, (vjoin (h7.pick [4, 0, 1, 2, 3] (Hs' := [_, _, _, _, _]) rfl)).pick [1] (Hs' := [_]) rfl⟩
theorem text_vm {w0 : World} (b_v b_t : Nat) (V : Vs) (Nv : Hl) (hVM : VM 5 32 68 b_v b_t V Nv) (hO : VOk V) (hH : HS (doms [Nv]) w0 w0 [Nv]) :
    Calls Tryd.prog 26 #[(.pointer (some ⟨b_v, 0, none⟩))] w0 (Ret fun r w' => ∃ v' N1 Nv', v' = r ∧ Ow B8 5 v' (textO V) N1 ∧ VM 5 32 68 b_v b_t V Nv' ∧ HS (doms [Nv]) w0 w' [Nv', N1]) := by
  obtain ⟨x, rr, Nx, No, Nd, rfl, hx, hR⟩ := hVM
  have h4 := (vsplit (hH.nilFront)).pick [1, 2, 3, 4, 0] (Hs' := [_, No, Nd, Nx, []]) rfl
  have htl := hO.tl
  have hrn := hO.rn
  rcases hd : V.down with _ | _
  · rw [hd] at h4
    have h5 := h4.pick [0, 3, 1, 2, 4] (Hs' := [_, Nx, No, Nd, []]) rfl
    refine (vtext_f b_v b_t V.gen x rr V.text Nx hx (by omega) (HS.handed (Ns1 := [_, _]) h5)).mono fun e w' hr => ?_
    obtain ⟨r, h1, v', N1, h2, hO1, hC⟩ := hr
    have h7 := (HS.call (Ns1 := [_, _]) h5 hC).pick [2, 0, 3, 4, 1] (Hs' := [N1, _, No, Nd, Nx]) rfl
    exact ⟨r, h1, v', N1, _, h2, by rw [(outs_f hd).2.1]; exact hO1, ⟨x, rr, Nx, No, Nd, by rw [hd], hx, hR⟩, (vjoin h7).pick [1, 0] (Hs' := [_, _]) rfl⟩
  · rw [hd] at h4
    refine (vtext_t b_v b_t V.gen x rr (HS.handed (Ns1 := [_]) h4)).mono fun e w' hr => ?_
    obtain ⟨r, h1, h2, hC⟩ := hr
    have h7 := HS.call (Ns1 := [_]) h4 hC
    exact ⟨r, h1, nilV, [], _, h2.symm, by rw [(outs_t hd).2.1]; exact Ow.nil B8 _, ⟨x, rr, Nx, No, Nd, by rw [hd], hx, hR⟩, ((vjoin (h7.pick [4, 0, 1, 2, 3] (Hs' := [_, _, _, _, _]) rfl)).pick [1] (Hs' := [_]) rfl).nilFront.pick [1, 0] (Hs' := [_, _]) rfl⟩
theorem recs_vm {w0 : World} (b_v b_t : Nat) (V : Vs) (Nv : Hl) (hVM : VM 5 32 68 b_v b_t V Nv) (hO : VOk V) (hH : HS (doms [Nv]) w0 w0 [Nv]) :
    Calls Tryd.prog 23 #[(.pointer (some ⟨b_v, 0, none⟩))] w0 (Ret fun r w' => ∃ v' N1 N2 Nv', v' = r ∧ RowsH 32 v' (recsO V) N1 N2 ∧ VM 5 32 68 b_v b_t V Nv' ∧ HS (doms [Nv]) w0 w' [Nv', N1, N2]) := by
  obtain ⟨x, rr, Nx, No, Nd, rfl, hx, hR⟩ := hVM
  have h4 := (vsplit (hH.nilFront)).pick [1, 2, 3, 4, 0] (Hs' := [_, No, Nd, Nx, []]) rfl
  have htl := hO.tl
  have hrn := hO.rn
  rcases hd : V.down with _ | _
  · rw [hd] at h4
    refine (recs_f b_v b_t V.gen x rr V.recs No Nd hR hO.rl (by omega) (HS.handed (Ns1 := [_, _, _]) h4)).mono fun e w' hr => ?_
    obtain ⟨r, h1, v', N1, N2, h2, hO1, hC⟩ := hr
    have h7 := (HS.call (Ns1 := [_, _, _]) h4 hC).pick [3, 4, 0, 1, 2, 5] (Hs' := [N1, N2, _, No, Nd, Nx]) rfl
    have h8 := (h7.join.pick [0, 1, 2, 3, 4] (Hs' := [N1 ++ N2, _, No, Nd, Nx]) rfl)
    have h9 := (vjoin h8).split.pick [2, 0, 1] (Hs' := [_, N1, N2]) rfl
    exact ⟨r, h1, v', N1, N2, _, h2, by rw [(outs_f hd).2.2]; exact hO1, ⟨x, rr, Nx, No, Nd, by rw [hd], hx, hR⟩, h9⟩
  · rw [hd] at h4
    refine (recs_t b_v b_t V.gen x rr (HS.handed (Ns1 := [_]) h4)).mono fun e w' hr => ?_
    obtain ⟨r, h1, h2, hC⟩ := hr
    have h7 := HS.call (Ns1 := [_]) h4 hC
    exact ⟨r, h1, nilV, [], [], _, h2.symm, by rw [(outs_t hd).2.2]; exact RowsH.nil _, ⟨x, rr, Nx, No, Nd, by rw [hd], hx, hR⟩, ((vjoin (h7.pick [4, 0, 1, 2, 3] (Hs' := [_, _, _, _, _]) rfl)).pick [1] (Hs' := [_]) rfl).nilFront.nilFront.pick [2, 0, 1] (Hs' := [_, _, _]) rfl⟩
end Go.Proofs.YthhdilafnfcpbaaDoor
