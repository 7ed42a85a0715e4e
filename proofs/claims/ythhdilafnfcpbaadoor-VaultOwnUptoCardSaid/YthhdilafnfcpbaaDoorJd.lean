/- Layer 10 (tape): its functions, by a tape as one piece of memory. -/
import Derived.Test.YthhdilafnfcpbaaDoorJc
import Derived.Test.YthhdilafnfcpbaaDoorVz
namespace Go.Proofs.YthhdilafnfcpbaaDoor
open Go
set_option linter.unusedVariables false
set_option linter.unusedSimpArgs false
set_option maxRecDepth 100000

theorem app_tm {w0 : World} (b_t : Nat) (T : Tp) (N : Hl) (hT : TM 5 76 66 b_t T N) (i : Nat) (hi : i < 4) (hf9 : T.fuse ≤ 9223372036854775807) (hop : (T.fs i).op.length ≤ 2097152) (v : Value) (l : Bs) (hl : l.length ≤ 1048576) (hr : By (doms [N]) w0 v l) (hH : HS (doms [N]) w0 w0 [N]) :
    Calls Tryd.prog 17 #[(.pointer (some ⟨b_t, 0, none⟩)), I i, v] w0 (Ret fun r w' => ∃ N', r = I (T.app i l).1 ∧ TM 5 76 66 b_t (T.app i l).2 N' ∧ HS (doms [N]) w0 w' [N']) := by
  obtain ⟨vs, Ns, Nn, No, Nr, hs, hn, ho, hopn, hcl⟩ := TM.open_ hi hT
  have h5 := hopn _ _ _ [] (hH.nilFront.pick [1, 0] (Hs' := [_, _]) rfl)
  have h6 := h5.pick [0, 2, 3, 1, 4, 5] (Hs' := [_, Nn, No, Ns, Nr, []]) rfl
  rcases hd : T.down with _ | _
  · rw [hd] at h6
    by_cases h2 : 1048576 < (T.fs i).now.length + l.length
    · refine (app_full b_t i hi vs T.fuse hf9 v l (T.fs i).now Nn hn h2 hl (HS.rdM (Ns1 := [_, _]) h6 hr) (HS.handed (Ns1 := [_, _]) h6)).mono fun e w' hr => ?_
      obtain ⟨r, h1, h2', hC⟩ := hr
      have h7 := (HS.call (Ns1 := [_, _]) h6 hC).pick [0, 3, 1, 2, 4, 5] (Hs' := [_, _, _, _, _, _]) rfl
      obtain ⟨N', hN, hc⟩ := hcl vs (T.fs i) T.fuse false Ns Nn No (fun _ _ _ _ _ => rfl) hs hn ho
      exact ⟨r, h1, N', by rw [app_2 hd h2]; first | exact h2' | (rw [h2']; split <;> rfl), by rw [app_2 hd h2]; have q := hN; rw [upd_id, ← hd] at q; exact q, (hc _ _ _ _ h7).pick [0] (Hs' := [_]) rfl⟩
    · refine (app_ok b_t i hi vs T.fuse hf9 v l (T.fs i).now (T.fs i).op Nn No hn ho (by omega) hop (HS.rdM (Ns1 := [_, _, _]) h6 hr) (HS.handed (Ns1 := [_, _, _]) h6)).mono fun e w' hr => ?_
      obtain ⟨r, h1, vx, Nn', No', h2', hv, hn', ho', hC⟩ := hr
      have h7 := (HS.call (Ns1 := [_, _, _]) h6 hC).pick [0, 3, 1, 2, 4, 5] (Hs' := [_, _, _, _, _, _]) rfl
      obtain ⟨N', hN, hc⟩ := hcl vx ⟨(T.fs i).sure, _, _⟩ _ _ Ns Nn' No' (fun k _ _ h2 h3 => hv k h2 h3) (by rw [hv _ (by omega) (by omega)]; exact hs) hn' ho'
      exact ⟨r, h1, N', by rw [app_3 hd h2]; first | exact h2' | (rw [h2']; split <;> rfl), by rw [app_3 hd h2]; exact hN, (hc _ _ _ _ h7).pick [0] (Hs' := [_]) rfl⟩
  · rw [hd] at h6
    refine (app_down b_t i hi vs T.fuse hf9 v (HS.handed (Ns1 := [_]) h6)).mono fun e w' hr => ?_
    obtain ⟨r, h1, h2', hC⟩ := hr
    have h7 := (HS.call (Ns1 := [_]) h6 hC).pick [0, 3, 1, 2, 4, 5] (Hs' := [_, _, _, _, _, _]) rfl
    obtain ⟨N', hN, hc⟩ := hcl vs (T.fs i) T.fuse true Ns Nn No (fun _ _ _ _ _ => rfl) hs hn ho
    exact ⟨r, h1, N', by rw [app_1 hd]; first | exact h2' | (rw [h2']; split <;> rfl), by rw [app_1 hd]; have q := hN; rw [upd_id, ← hd] at q; exact q, (hc _ _ _ _ h7).pick [0] (Hs' := [_]) rfl⟩
theorem cut_tm {w0 : World} (b_t : Nat) (T : Tp) (N : Hl) (hT : TM 5 76 66 b_t T N) (i : Nat) (hi : i < 4) (hf9 : T.fuse ≤ 9223372036854775807) (hop : (T.fs i).op.length ≤ 2097152) (n : Nat) (hnn : n ≤ (T.fs i).now.length) (hH : HS (doms [N]) w0 w0 [N]) :
    Calls Tryd.prog 49 #[(.pointer (some ⟨b_t, 0, none⟩)), I i, I n] w0 (Ret fun r w' => ∃ N', r = I (T.cut i n).1 ∧ TM 5 76 66 b_t (T.cut i n).2 N' ∧ HS (doms [N]) w0 w' [N']) := by
  obtain ⟨vs, Ns, Nn, No, Nr, hs, hn, ho, hopn, hcl⟩ := TM.open_ hi hT
  have h5 := hopn _ _ _ [] (hH.nilFront.pick [1, 0] (Hs' := [_, _]) rfl)
  have h6 := h5.pick [0, 2, 3, 1, 4, 5] (Hs' := [_, Nn, No, Ns, Nr, []]) rfl
  rcases hd : T.down with _ | _
  · rw [hd] at h6
    by_cases h2 : T.fuse = 0
    · refine (cut_no b_t i hi vs T.fuse hf9 (T.fs i).now Nn hn n hnn h2 (HS.handed (Ns1 := [_, _]) h6)).mono fun e w' hr => ?_
      obtain ⟨r, h1, h2', hC⟩ := hr
      have h7 := (HS.call (Ns1 := [_, _]) h6 hC).pick [0, 3, 1, 2, 4, 5] (Hs' := [_, _, _, _, _, _]) rfl
      obtain ⟨N', hN, hc⟩ := hcl vs (T.fs i) T.fuse true Ns Nn No (fun _ _ _ _ _ => rfl) hs hn ho
      exact ⟨r, h1, N', by rw [cut_1 (.inr h2)]; first | exact h2' | (rw [h2']; split <;> rfl), by rw [cut_1 (.inr h2)]; have q := hN; rw [upd_id] at q; exact q, (hc _ _ _ _ h7).pick [0] (Hs' := [_]) rfl⟩
    · refine (cut_ok b_t i hi vs T.fuse hf9 (T.fs i).now Nn hn (T.fs i).op No ho hop n hnn h2 (HS.handed (Ns1 := [_, _, _]) h6)).mono fun e w' hr => ?_
      obtain ⟨r, h1, vx, Nn', No', h2', hv, hn', ho', hC⟩ := hr
      have h7 := (HS.call (Ns1 := [_, _, _]) h6 hC).pick [0, 3, 1, 2, 4, 5] (Hs' := [_, _, _, _, _, _]) rfl
      obtain ⟨N', hN, hc⟩ := hcl vx ⟨(T.fs i).sure, _, _⟩ _ _ Ns Nn' No' (fun k _ _ h2 h3 => hv k h2 h3) (by rw [hv _ (by omega) (by omega)]; exact hs) hn' ho'
      exact ⟨r, h1, N', by rw [cut_2 hd h2]; first | exact h2' | (rw [h2']; split <;> rfl), by rw [cut_2 hd h2]; exact hN, (hc _ _ _ _ h7).pick [0] (Hs' := [_]) rfl⟩
  · rw [hd] at h6
    refine (cut_down b_t i hi vs T.fuse hf9 (T.fs i).now Nn hn n hnn (HS.handed (Ns1 := [_, _]) h6)).mono fun e w' hr => ?_
    obtain ⟨r, h1, h2', hC⟩ := hr
    have h7 := (HS.call (Ns1 := [_, _]) h6 hC).pick [0, 3, 1, 2, 4, 5] (Hs' := [_, _, _, _, _, _]) rfl
    obtain ⟨N', hN, hc⟩ := hcl vs (T.fs i) T.fuse true Ns Nn No (fun _ _ _ _ _ => rfl) hs hn ho
    exact ⟨r, h1, N', by rw [cut_1 (.inl hd)]; first | exact h2' | (rw [h2']; split <;> rfl), by rw [cut_1 (.inl hd)]; have q := hN; rw [upd_id] at q; exact q, (hc _ _ _ _ h7).pick [0] (Hs' := [_]) rfl⟩
theorem sync_tm {w0 : World} (b_t : Nat) (T : Tp) (N : Hl) (hT : TM 5 76 66 b_t T N) (i : Nat) (hi : i < 4) (hf9 : T.fuse ≤ 9223372036854775807) (hop : (T.fs i).op.length ≤ 2097152) (hnl : (T.fs i).now.length ≤ 1048576) (hH : HS (doms [N]) w0 w0 [N]) :
    Calls Tryd.prog 70 #[(.pointer (some ⟨b_t, 0, none⟩)), I i] w0 (Ret fun r w' => ∃ N', r = I (T.sync i).1 ∧ TM 5 76 66 b_t (T.sync i).2 N' ∧ HS (doms [N]) w0 w' [N']) := by
  obtain ⟨vs, Ns, Nn, No, Nr, hs, hn, ho, hopn, hcl⟩ := TM.open_ hi hT
  have h5 := hopn _ _ _ [] (hH.nilFront.pick [1, 0] (Hs' := [_, _]) rfl)
  have h6 := h5.pick [0, 2, 3, 1, 4, 5] (Hs' := [_, Nn, No, Ns, Nr, []]) rfl
  rcases hd : T.down with _ | _
  · rw [hd] at h6
    by_cases h2 : T.fuse = 0
    · refine (sync_no b_t i hi vs T.fuse hf9 h2 (HS.handed (Ns1 := [_]) h6)).mono fun e w' hr => ?_
      obtain ⟨r, h1, h2', hC⟩ := hr
      have h7 := (HS.call (Ns1 := [_]) h6 hC).pick [0, 3, 1, 2, 4, 5] (Hs' := [_, _, _, _, _, _]) rfl
      obtain ⟨N', hN, hc⟩ := hcl vs (T.fs i) T.fuse true Ns Nn No (fun _ _ _ _ _ => rfl) hs hn ho
      exact ⟨r, h1, N', by rw [sync_1 (.inr h2)]; first | exact h2' | (rw [h2']; split <;> rfl), by rw [sync_1 (.inr h2)]; have q := hN; rw [upd_id] at q; exact q, (hc _ _ _ _ h7).pick [0] (Hs' := [_]) rfl⟩
    · refine (sync_ok b_t i hi vs T.fuse hf9 (T.fs i).now Nn hn hnl (T.fs i).op No ho hop h2 (HS.handed (Ns1 := [_, _, _]) h6)).mono fun e w' hr => ?_
      obtain ⟨r, h1, vx, Ns', No', h2', hv, hs', ho', hC⟩ := hr
      have h7 := (HS.call (Ns1 := [_, _, _]) h6 hC).pick [0, 2, 1, 3, 5, 6] (Hs' := [_, _, _, _, _, _]) rfl
      obtain ⟨N', hN, hc⟩ := hcl vx ⟨(T.fs i).now, (T.fs i).now, []⟩ _ _ Ns' Nn No' (fun k _ h1 _ h3 => hv k h1 h3) hs' (by rw [hv _ (by omega) (by omega)]; exact hn) ho'
      exact ⟨r, h1, N', by rw [sync_2 hd h2]; first | exact h2' | (rw [h2']; split <;> rfl), by rw [sync_2 hd h2]; exact hN, (hc _ _ _ _ h7).pick [0] (Hs' := [_]) rfl⟩
  · rw [hd] at h6
    refine (sync_down b_t i hi vs T.fuse hf9 (HS.handed (Ns1 := [_]) h6)).mono fun e w' hr => ?_
    obtain ⟨r, h1, h2', hC⟩ := hr
    have h7 := (HS.call (Ns1 := [_]) h6 hC).pick [0, 3, 1, 2, 4, 5] (Hs' := [_, _, _, _, _, _]) rfl
    obtain ⟨N', hN, hc⟩ := hcl vs (T.fs i) T.fuse true Ns Nn No (fun _ _ _ _ _ => rfl) hs hn ho
    exact ⟨r, h1, N', by rw [sync_1 (.inl hd)]; first | exact h2' | (rw [h2']; split <;> rfl), by rw [sync_1 (.inl hd)]; have q := hN; rw [upd_id] at q; exact q, (hc _ _ _ _ h7).pick [0] (Hs' := [_]) rfl⟩
theorem read_tm {w0 : World} (b_t : Nat) (T : Tp) (N : Hl) (hT : TM 5 76 66 b_t T N) (i : Nat) (hi : i < 4) (hf9 : T.fuse ≤ 9223372036854775807) (hd : T.down = false) (hnl : (T.fs i).now.length ≤ 1048576) (hH : HS (doms [N]) w0 w0 [N]) :
    Calls Tryd.prog 20 #[(.pointer (some ⟨b_t, 0, none⟩)), I i] w0 (Ret fun r w' => ∃ v' N1 N', r = .tuple #[v', I 0] ∧ Ow B8 5 v' (T.fs i).now N1 ∧ TM 5 76 66 b_t T N' ∧ HS (doms [N]) w0 w' [N', N1]) := by
  obtain ⟨vs, Ns, Nn, No, Nr, hs, hn, ho, hopn, hcl⟩ := TM.open_ hi hT
  have h5 := hopn _ _ _ [] (hH.nilFront.pick [1, 0] (Hs' := [_, _]) rfl)
  have h6 := h5.pick [0, 2, 3, 1, 4, 5] (Hs' := [_, Nn, No, Ns, Nr, []]) rfl
  rw [hd] at h6
  refine (read_ok b_t i hi vs T.fuse hf9 (T.fs i).now Nn hn hnl (HS.handed (Ns1 := [_, _]) h6)).mono fun e w' hr => ?_
  obtain ⟨r, h1, v', N1, h2, h3, hC⟩ := hr
  have h7 := (HS.call (Ns1 := [_, _]) h6 hC).pick [0, 4, 1, 3, 5, 2] (Hs' := [_, _, _, _, _, _]) rfl
  obtain ⟨N', hN, hc⟩ := hcl vs (T.fs i) T.fuse false Ns Nn No (fun _ _ _ _ _ => rfl) hs hn ho
  rw [upd_id, ← hd] at hN
  exact ⟨r, h1, v', N1, N', h2, h3, hN, hc _ _ _ _ h7⟩
theorem crash_tm {w0 : World} (b_t : Nat) (T : Tp) (N : Hl) (hT : TM 5 76 66 b_t T N) (hok : T.Ok) (hfl : ∀ i, (T.fs i).op.length ≤ 2097152) (v : Value) (ks : List Int) (hr : Rm I (doms [N]) w0 v ks) (hH : HS (doms [N]) w0 w0 [N]) :
    Calls Tryd.prog 15 #[(.pointer (some ⟨b_t, 0, none⟩)), v] w0 (Ret fun r w' => ∃ b_x N' N1, r = .pointer (some ⟨b_x, 0, none⟩) ∧ TM 5 76 66 b_t T N' ∧ TM 5 76 66 b_x (T.crash ks) N1 ∧ HS (doms [N]) w0 w' [N', N1]) := by
  obtain ⟨vs, N0, N1, N2, N3, rfl, h0, h1, h2, h3⟩ := hT
  have h5 := hH.split
  have h6 : HS _ _ _ [_, N0 ++ (N1 ++ (N2 ++ N3))] := h5
  have hRR : ∀ i, i < 4 → (∀ M w, RO M w (N0 ++ (N1 ++ (N2 ++ N3))) → By M w (vs (3 * i)) (T.fs i).sure) ∧ ∀ M w, RO M w (N0 ++ (N1 ++ (N2 ++ N3))) → Rd M w (vs (3 * i + 2)) (T.fs i).op.length 2 (cellsS (T.fs i).op) := fun i hi => by
    rcases (show i = 0 ∨ i = 1 ∨ i = 2 ∨ i = 3 by omega) with rfl | rfl | rfl | rfl
    · exact ⟨fun M w hw => h0.read.1 M w hw.left, fun M w hw => h0.read.2 M w hw.left⟩
    · exact ⟨fun M w hw => h1.read.1 M w hw.right.left, fun M w hw => h1.read.2 M w hw.right.left⟩
    · exact ⟨fun M w hw => h2.read.1 M w hw.right.right.left, fun M w hw => h2.read.2 M w hw.right.right.left⟩
    · exact ⟨fun M w hw => h3.read.1 M w hw.right.right.right, fun M w hw => h3.read.2 M w hw.right.right.right⟩
  refine (crash_any b_t vs T.fuse T.down T.fs hok hfl (N0 ++ (N1 ++ (N2 ++ N3))) (fun i hi => (hRR i hi).1) (fun i hi => (hRR i hi).2) v ks (HS.rdM (Ns1 := [_, _]) h6 hr) (HS.handed (Ns1 := [_, _]) h6)).mono fun e w' hr => ?_
  obtain ⟨r, e1, b_x, vx, N_y, e2, hF, hC⟩ := hr
  have h7 := HS.call (Ns1 := [_, _]) h6 hC
  have h8 := (h7.join.pick [1, 2, 0] (Hs' := [_, _, _]) rfl).join.pick [1, 0] (Hs' := [_, _]) rfl
  obtain ⟨M0, M1, M2, M3, rfl, a0, a1, a2, a3⟩ := hF.four
  exact ⟨r, e1, b_x, _, _, e2, ⟨vs, N0, N1, N2, N3, rfl, h0, h1, h2, h3⟩, ⟨vx, M0, M1, M2, M3, rfl, a0, a1, a2, a3⟩, h8⟩
theorem newt_tm {w0 : World} : Calls Tryd.prog 12 #[] w0 (Ret fun r w' => ∃ b_t N, r = .pointer (some ⟨b_t, 0, none⟩) ∧ TM 5 76 66 b_t ⟨fun _ => ⟨[], [], []⟩, -1, false⟩ N ∧ HS [] w0 w' [N]) := by
  refine newt_any.mono fun e w' hr => ?_
  obtain ⟨r, e1, b_t, e2, hH⟩ := hr
  have hF : ∀ i, FM 5 76 (fun _ => nilV) i ⟨[], [], []⟩ [] := fun i => ⟨[], [], [], rfl, Own.nil _ _, Own.nil _ _, Own.nil _ _⟩
  exact ⟨r, e1, b_t, _, e2, ⟨_, [], [], [], [], rfl, hF 0, hF 1, hF 2, hF 3⟩, by simpa using hH⟩
end Go.Proofs.YthhdilafnfcpbaaDoor
