/- Layer 22 (worker): a worker as one piece of memory; what it hears. -/
import Derived.Test.YtnnkgdijaekcfaaGreatDoorKg
import Derived.Test.YtnnkgdijaekcfaaGreatDoorMzc
namespace Go.Proofs.YtnnkgdijaekcfaaGreatDoor
open Go
set_option linter.unusedVariables false
set_option linter.unusedSimpArgs false
set_option maxRecDepth 100000

/-- a worker's memory: its key, what it did -/
def WkM (key s : Bs) (n h : Nat) (b_w x : Nat) (did : Dids) (N : Hl) : Prop :=
  ∃ (b_k b_s b_m : Nat) (v_l : Value) (N_l : Hl) (m : List (Int × Value)) (Nd : Hl), N = [(b_w, Obj.cells (wkC b_k key b_m).toArray 64 (0, 0))] ++ ([(b_k, Obj.cells (keyC (.func (.func 48) #[] #[.pointer (some ⟨b_s, 0, none⟩)]) v_l (pubK s n h) n x).toArray 107 (0, 0))] ++ ([(b_s, Obj.cells (s.map B8).toArray 25 (0, 0))] ++ (N_l ++ ([(b_m, mapO m)] ++ Nd)))) ∧ OwD 25 v_l (leavesK s n (2 ^ h)) N_l ∧ DidM 5 did m Nd ∧ x ≤ 2 ^ h ∧ ∀ e ∈ did, e.2.2.length ≤ 100000
theorem ansV_len {s : Bs} {n h : Nat} {D : Ord} (hn : R7 n h) (hi : D.1.2.2.1 < 2 ^ h) (hM : MayO D.1.1 D.1.2.1 D.1.2.2.1 D.1.2.2.2.1 D.1.2.2.2.2.1) (hDn : D.1.2.2.2.2.2.length = 32) : (ansV s n h D).length ≤ 100000 := by
  obtain ⟨⟨_, hM1⟩, ⟨_, hM2⟩, ⟨_, hM3⟩, hM4, hM5⟩ := hM
  have hn1 := hn.1.1
  have hn2 := hn.1.2
  have hn3 := hn.2.2
  have hr8 := rightV_length D.1.2.2.2.2.1
  have hdo := otsK_dg s n D.1.2.2.1 (txV (max (D.1.1 : Int) 0).toNat (max (D.1.2.1 : Int) 0).toNat (rightV D.1.2.2.2.2.1) D.1.2.2.2.2.2)
  have hdp := pthK_dg s n hi
  have hlo := otsK_length s n D.1.2.2.1 (txV (max (D.1.1 : Int) 0).toNat (max (D.1.2.1 : Int) 0).toNat (rightV D.1.2.2.2.2.1) D.1.2.2.2.2.2)
  have hlp := pthK_length s n h D.1.2.2.1
  have hel := encK_len (i := (D.1.2.2.1 : Int)) (by omega) hdo hdp
  have hrl := encR_len (u := D.1.2.2.2.1) (v := rightV D.1.2.2.2.2.1) (E := encK (D.1.2.2.1 : Int) (otsK s n D.1.2.2.1 (txV (max (D.1.1 : Int) 0).toNat (max (D.1.2.1 : Int) 0).toNat (rightV D.1.2.2.2.2.1) D.1.2.2.2.2.2)) (pthK s n h D.1.2.2.1)) (by omega) (by omega) (by omega)
  unfold ansV
  omega
theorem hear_any {w0 : World} {lv : Nat} (hg : Gl lv w0) (key : Bs) (hkey : key.length = 32) (s : Bs) (hsd : s.length = 32) (n h : Nat) (hn : R7 n h) (b_w x : Nat) (did : Dids) (N : Hl) (hW : WkM key s n h b_w x did N) (hgM : NG lv (doms [N])) (u : Value) (l : Bs) (hu : By (doms [N]) w0 u l) (hl : l.length ≤ 1000000) (D : Ord) (hD : D = decO key l) (hH : HS (doms [N]) w0 w0 [N]) :
    Calls Tryz.prog 12 #[(.pointer (some ⟨b_w, 0, none⟩)), u] w0 (Ret fun r w' => ∃ a' N1 N', r = .tuple #[a', I (hearD s n h x did l D).1.2] ∧ Ow B8 5 a' (hearD s n h x did l D).1.1 N1 ∧ (hearD s n h x did l D).1.1.length ≤ 100000 ∧ WkM key s n h b_w (hearD s n h x did l D).2.1 (hearD s n h x did l D).2.2 N' ∧ HS (doms [N]) w0 w' [N', N1]) := by
  obtain ⟨b_k, b_s, b_m, v_l, N_l, m, Nd, rfl, hO_l, hM, hx, ha⟩ := hW
  have h6 := hH.sixOff
  have hNG := Gl.ngs (Ns1 := [_, _, _]) hg hgM h6
  have hU : By [b_w, b_k, b_m] w0 u l := HS.rdM (Ns1 := [_, _, _]) h6 hu
  have hSd : RdD [b_w, b_k, b_m] w0 (.slice (some ⟨b_s, 0, none⟩) 1 1) [s] := HS.boxDM (Ns1 := [_, _, _]) h6 0 rfl hsd
  have hLv : RdD [b_w, b_k, b_m] w0 v_l (leavesK s n (2 ^ h)) := Own.rdM hO_l (Ns1 := [_, _, _]) h6 1 rfl
  by_cases he : D.2 ≠ 0
  · refine (hear_bad hg key hkey s hsd n h hn v_l b_w b_k b_s b_m hNG hSd hLv x hx m u l hU hl D hD he (HS.handed (Ns1 := [_, _, _]) h6)).mono fun e w' hr => ?_
    obtain ⟨r, h1, h2, hr3⟩ := hr
    have h7 := (HS.call (Ns1 := [_, _, _]) h6 hr3).nilFront
    rw [hearD_bad he]
    exact ⟨r, h1, nilV, [], _, h2, Ow.nil B8 _, Nat.zero_le _, ⟨b_k, b_s, b_m, v_l, N_l, m, Nd, rfl, hO_l, hM, hx, ha⟩, HS.six (h7.pick [1, 2, 3, 4, 5, 6, 0] (Hs' := [_, _, _, _, _, _, _]) rfl)⟩
  · replace he : D.2 = 0 := Classical.not_not.1 he
    rcases hf : hadD did D.1.2.2.1 with _ | e
    · have hmg := DidM.none hM hf
      by_cases h3 : D.1.2.2.1 < x
      · refine (hear_low hg key hkey s hsd n h hn v_l b_w b_k b_s b_m hNG hSd hLv x hx m u l hU hl D hD he hmg h3 (HS.handed (Ns1 := [_, _, _]) h6)).mono fun e w' hr => ?_
        obtain ⟨r, h1, h2, hr3⟩ := hr
        have h7 := (HS.call (Ns1 := [_, _, _]) h6 hr3).nilFront
        rw [hearD_keys he hf (Or.inl h3)]
        exact ⟨r, h1, nilV, [], _, h2, Ow.nil B8 _, Nat.zero_le _, ⟨b_k, b_s, b_m, v_l, N_l, m, Nd, rfl, hO_l, hM, hx, ha⟩, HS.six (h7.pick [1, 2, 3, 4, 5, 6, 0] (Hs' := [_, _, _, _, _, _, _]) rfl)⟩
      by_cases h4 : 2 ^ h ≤ D.1.2.2.1
      · refine (hear_high hg key hkey s hsd n h hn v_l b_w b_k b_s b_m hNG hSd hLv x hx m u l hU hl D hD he hmg ⟨by omega, h4⟩ (HS.handed (Ns1 := [_, _, _]) h6)).mono fun e w' hr => ?_
        obtain ⟨r, h1, h2, hr3⟩ := hr
        have h7 := (HS.call (Ns1 := [_, _, _]) h6 hr3).nilFront
        rw [hearD_keys he hf (Or.inr h4)]
        exact ⟨r, h1, nilV, [], _, h2, Ow.nil B8 _, Nat.zero_le _, ⟨b_k, b_s, b_m, v_l, N_l, m, Nd, rfl, hO_l, hM, hx, ha⟩, HS.six (h7.pick [1, 2, 3, 4, 5, 6, 0] (Hs' := [_, _, _, _, _, _, _]) rfl)⟩
      refine (hear_new hg key hkey s hsd n h hn v_l b_w b_k b_s b_m hNG hSd hLv x hx m u l hU hl D hD he hmg (by omega) (by omega) (HS.handed (Ns1 := [_, _, _]) h6)).mono fun e w' hr => ?_
      obtain ⟨r, h1, a', ov, av, N1, N2, N3, h2, hO1, hO2, hO3, h5⟩ := hr
      have h7 := (HS.call (Ns1 := [_, _, _]) h6 h5)
      have h8 := (h7.pick [4, 5, 0, 1, 2, 3, 6, 7, 8] (Hs' := [_, _, _, _, _, _, _, _, _]) rfl).join
      have h9 := (h8.pick [7, 0, 1, 2, 3, 4, 5, 6] (Hs' := [_, _, _, _, _, _, _, _]) rfl).join
      have hal : (ansV s n h D).length ≤ 100000 := ansV_len hn (by omega) (by rw [hD]; exact decO_may (key := key) (l := l) (by rw [← hD]; exact he)) (by rw [hD]; exact decO_n key l)
      rw [hearD_new he hf (by omega)]
      refine ⟨r, h1, a', N1, _, h2, hO1, hal, ⟨b_k, b_s, b_m, v_l, N_l, _, _, rfl, hO_l, DidM.snoc hO2 hO3 hM, ?_, ?_⟩, HS.six (h9.pick [1, 2, 3, 5, 6, 0, 4] (Hs' := [_, _, _, _, _, _, _]) rfl)⟩
      · show D.1.2.2.1 + 1 ≤ 2 ^ h
        omega
      · intro e' he'
        rcases List.mem_append.1 he' with h | h
        · exact ha e' h
        · obtain rfl := List.mem_singleton.1 h
          exact hal
    · obtain ⟨ov, av, A, No, Na, B, hmg, rfl, hOo, hOa⟩ := DidM.some hM hf
      have g1 := (h6.pick [5, 0, 1, 2, 3, 4] (Hs' := [_, _, _, _, _, _]) rfl).split
      have g2 := (g1.pick [1, 0, 2, 3, 4, 5, 6] (Hs' := [_, _, _, _, _, _, _]) rfl).split
      have g3 := (g2.pick [1, 0, 2, 3, 4, 5, 6, 7] (Hs' := [_, _, _, _, _, _, _, _]) rfl).split
      have g4 := g3.pick [4, 5, 6, 2, 0, 1, 3, 7, 8] (Hs' := [_, _, _, No, Na, B, A, _, _]) rfl
      have hov : By [b_w, b_k, b_m] w0 ov e.2.1 := Own.rdM hOo (Ns1 := [_, _, _]) g4 0 rfl
      have hav : By [b_w, b_k, b_m] w0 av e.2.2 := Own.rdM hOa (Ns1 := [_, _, _]) g4 1 rfl
      by_cases h3 : e.2.1 = l
      · refine (hear_same hg key hkey s hsd n h hn v_l b_w b_k b_s b_m hNG hSd hLv x hx m u l hU hl D hD he ov av e.2.1 e.2.2 hmg hov hav h3 (Nat.le_trans (ha e (hadD_mem hf).1) (by decide)) (HS.handed (Ns1 := [_, _, _]) h6)).mono fun e' w' hr => ?_
        obtain ⟨r, h1, a', N1, h2, hO1, h5⟩ := hr
        have h7 := HS.call (Ns1 := [_, _, _]) h6 h5
        rw [hearD_same he hf h3]
        exact ⟨r, h1, a', N1, _, h2, hO1, ha e (hadD_mem hf).1, ⟨b_k, b_s, b_m, v_l, N_l, m, _, rfl, hO_l, hM, hx, ha⟩, HS.six (h7.pick [0, 1, 2, 4, 5, 6, 3] (Hs' := [_, _, _, _, _, _, _]) rfl)⟩
      · refine (hear_state hg key hkey s hsd n h hn v_l b_w b_k b_s b_m hNG hSd hLv x hx m u l hU hl D hD he ov av e.2.1 e.2.2 hmg hov hav h3 (HS.handed (Ns1 := [_, _, _]) h6)).mono fun e' w' hr => ?_
        obtain ⟨r, h1, h2, hr3⟩ := hr
        have h7 := (HS.call (Ns1 := [_, _, _]) h6 hr3).nilFront
        rw [hearD_state he hf h3]
        exact ⟨r, h1, nilV, [], _, h2, Ow.nil B8 _, Nat.zero_le _, ⟨b_k, b_s, b_m, v_l, N_l, m, _, rfl, hO_l, hM, hx, ha⟩, HS.six (h7.pick [1, 2, 3, 4, 5, 6, 0] (Hs' := [_, _, _, _, _, _, _]) rfl)⟩
theorem hear_r {w0 : World} {lv : Nat} (hg : Gl lv w0) (key : Bs) (hkey : key.length = 32) (s : Bs) (hsd : s.length = 32) (n h : Nat) (hn : R7 n h) (b_w x : Nat) (did : Dids) (N : Hl) (hW : WkM key s n h b_w x did N) (hgM : NG lv (doms [N])) (u : Value) (l : Bs) (hu : By (doms [N]) w0 u l) (hl : l.length ≤ 1000000) (D : Ord) (hD : D = decO key l) {R : (Bs × Nat) × (Nat × Dids)} (hR : R = hearD s n h x did l D) (hH : HS (doms [N]) w0 w0 [N]) :
    Calls Tryz.prog 12 #[(.pointer (some ⟨b_w, 0, none⟩)), u] w0 (Ret fun r w' => ∃ a' N1 N', r = .tuple #[a', I R.1.2] ∧ Ow B8 5 a' R.1.1 N1 ∧ R.1.1.length ≤ 100000 ∧ WkM key s n h b_w R.2.1 R.2.2 N' ∧ HS (doms [N]) w0 w' [N', N1]) := by
  rw [hR]; exact hear_any hg key hkey s hsd n h hn b_w x did N hW hgM u l hu hl D hD hH
end Go.Proofs.YtnnkgdijaekcfaaGreatDoor
