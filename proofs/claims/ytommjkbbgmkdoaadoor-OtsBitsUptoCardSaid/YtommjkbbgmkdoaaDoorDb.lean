/- Layer 5 (ots): whatever is asked; verifying; awake. -/
import Derived.Test.YtommjkbbgmkdoaaDoorDa
import Derived.Test.YtommjkbbgmkdoaaDoorCs
import Derived.Test.YtommjkbbgmkdoaaDoorMo
namespace Go.Proofs.YtommjkbbgmkdoaaDoor
open Go
set_option linter.unusedVariables false
set_option linter.unusedSimpArgs false
set_option maxRecDepth 100000

theorem public_tot {w0 : World} {lv : Nat} (hg : Gl lv w0) (s : Bs) (hs : s.length = 32) (n : Int) : Calls Tryd.prog 28 #[(.agg ((s).map B8).toArray), I n] w0 (Ret fun r w' => ∃ v' N, r = .tuple #[v', I (pubT s n).2] ∧ OwD 24 v' (pubT s n).1 N ∧ HS [] w0 w' [N]) := by
  by_cases h : R5 n
  · obtain ⟨m, rfl⟩ : ∃ m : Nat, n = m := ⟨n.toNat, by have := h.1; omega⟩
    rw [pubT_ok h]
    exact public_any hg s hs m h
  · rw [pubT_bad h]
    exact (public_bad s hs n h).mono fun e w' he => by
      obtain ⟨r, h1, h2, h3⟩ := he
      exact ⟨r, h1, _, [], h2, OwD.nil _, h3.nilFront⟩
theorem refpublic_tot {w0 : World} {lv : Nat} (hg : Gl (lv + 2) w0) (s : Bs) (hs : s.length = 32) (n : Int) : Calls Tryd.prog 29 #[(.agg ((s).map B8).toArray), I n] w0 (Ret fun r w' => ∃ v' N, r = .tuple #[v', I (pubT s n).2] ∧ OwD 24 v' (pubT s n).1 N ∧ HS [] w0 w' [N]) := by
  by_cases h : R5 n
  · obtain ⟨m, rfl⟩ : ∃ m : Nat, n = m := ⟨n.toNat, by have := h.1; omega⟩
    rw [pubT_ok h]
    exact refpublic_any hg s hs m h
  · rw [pubT_bad h]
    exact (refpublic_bad s hs n h).mono fun e w' he => by
      obtain ⟨r, h1, h2, h3⟩ := he
      exact ⟨r, h1, _, [], h2, OwD.nil _, h3.nilFront⟩
theorem sign_tot {w0 : World} {lv : Nat} (hg : Gl lv w0) (s : Bs) (hs : s.length = 32) (n : Int) (u : Value) (l : Bs) (hu : By [] w0 u l) (hl : l.length ≤ 1048576) : Calls Tryd.prog 32 #[(.agg ((s).map B8).toArray), I n, u] w0 (Ret fun r w' => ∃ v' N, r = .tuple #[v', I (sigT s n l).2] ∧ OwD 24 v' (sigT s n l).1 N ∧ HS [] w0 w' [N]) := by
  by_cases h : R5 n
  · obtain ⟨m, rfl⟩ : ∃ m : Nat, n = m := ⟨n.toNat, by have := h.1; omega⟩
    rw [sigT_ok h]
    exact sign_any hg s hs m h u l hu hl
  · rw [sigT_bad h]
    exact (sign_bad s hs n h u).mono fun e w' he => by
      obtain ⟨r, h1, h2, h3⟩ := he
      exact ⟨r, h1, _, [], h2, OwD.nil _, h3.nilFront⟩
theorem refsign_tot {w0 : World} {lv : Nat} (hg : Gl (lv + 2) w0) (s : Bs) (hs : s.length = 32) (n : Int) (u : Value) (l : Bs) (hu : By [] w0 u l) (hl : l.length ≤ 1048576) : Calls Tryd.prog 34 #[(.agg ((s).map B8).toArray), I n, u] w0 (Ret fun r w' => ∃ v' N, r = .tuple #[v', I (sigT s n l).2] ∧ OwD 24 v' (sigT s n l).1 N ∧ HS [] w0 w' [N]) := by
  by_cases h : R5 n
  · obtain ⟨m, rfl⟩ : ∃ m : Nat, n = m := ⟨n.toNat, by have := h.1; omega⟩
    rw [sigT_ok h]
    exact refsign_any hg s hs m h u l hu hl
  · rw [sigT_bad h]
    exact (refsign_bad s hs n h u).mono fun e w' he => by
      obtain ⟨r, h1, h2, h3⟩ := he
      exact ⟨r, h1, _, [], h2, OwD.nil _, h3.nilFront⟩
theorem recover_tot {w0 : World} {lv : Nat} (hg : Gl lv w0) (n : Int) (u : Value) (l : Bs) (hu : By [] w0 u l) (hl : l.length ≤ 1048576) (v : Value) (sg : List Bs) (hd : Dg sg) (hr : RdD [] w0 v sg) (hsm : sg.length ≤ 1048576) : Calls Tryd.prog 35 #[I n, u, v] w0 (Ret fun r w' => r = .tuple #[.agg (((recT n l sg).1).map B8).toArray, I (recT n l sg).2] ∧ HS [] w0 w' []) := by
  by_cases h : R5 n
  · obtain ⟨m, rfl⟩ : ∃ m : Nat, n = m := ⟨n.toNat, by have := h.1; omega⟩
    by_cases h2 : sg.length = 2 * m
    · rw [recT_ok h l h2]
      exact recover_any hg m h u l hu hl v sg hd hr h2
    · rw [recT_form h l h2]
      exact recover_form m h u v sg hd hr h2 hsm
  · rw [recT_bad h]
    exact recover_bad n h u v
theorem refrecover_tot {w0 : World} {lv : Nat} (hg : Gl (lv + 2) w0) (n : Int) (u : Value) (l : Bs) (hu : By [] w0 u l) (hl : l.length ≤ 1048576) (v : Value) (sg : List Bs) (hd : Dg sg) (hr : RdD [] w0 v sg) (hsm : sg.length ≤ 1048576) : Calls Tryd.prog 36 #[I n, u, v] w0 (Ret fun r w' => r = .tuple #[.agg (((recT n l sg).1).map B8).toArray, I (recT n l sg).2] ∧ HS [] w0 w' []) := by
  by_cases h : R5 n
  · obtain ⟨m, rfl⟩ : ∃ m : Nat, n = m := ⟨n.toNat, by have := h.1; omega⟩
    by_cases h2 : sg.length = 2 * m
    · rw [recT_ok h l h2]
      exact refrecover_any hg m h u l hu hl v sg hd hr h2
    · rw [recT_form h l h2]
      exact refrecover_form m h u v sg hd hr h2 hsm
  · rw [recT_bad h]
    exact refrecover_bad n h u v
theorem verify_any {w0 : World} {lv : Nat} (hg : Gl lv w0) (root : Bs) (hrt : root.length = 32) (n : Int) (u : Value) (l : Bs) (hu : By [] w0 u l) (hl : l.length ≤ 1048576) (v : Value) (sg : List Bs) (hd : Dg sg) (hr : RdD [] w0 v sg) (hsm : sg.length ≤ 1048576) :
    Calls Tryd.prog 38 #[(.agg ((root).map B8).toArray), I n, u, v] w0 (Ret fun r w' => r = .bool (decide ((recT n l sg).2 = 0 ∧ (recT n l sg).1 = root)) ∧ HS [] w0 w' []) := by
  have hH := HS.start w0
  refine start (n := 25) (E := [(0, _), (1, _), (2, _), (3, _)]) Tryd.func38 rfl rfl rfl (args_look rfl) ?_
  intro a hA
  have hrl := recT_length n l sg
  refine wp_seq_k fun K1 hK1 => ?_
  refine wp_region_lit ?_
  refine sl hA (lo_boxA hH rfl) rfl ?_
  clear hH; rintro _ w ⟨b_t4, rfl, hH⟩ a hA
  refine sq hA (q_assign rfl) rfl fun a hA => ?_
  refine wpList_nil ?_
  refine hK1 _ _ ?_
  clear hK1
  replace hA := hA.sub (E' := [(8, _), (4, _), (1, _), (2, _), (3, _)]) ⟨rfl, rfl, rfl, rfl, rfl, trivial⟩
  refine wp_seq_k fun K2 hK2 => ?_
  refine wp_region_lit ?_
  refine sq hA (q_move rfl) rfl fun a hA => ?_
  refine sq hA (q_move rfl) rfl fun a hA => ?_
  refine sq hA (q_move rfl) rfl fun a hA => ?_
  refine sl hA (lo_call fn35 rfl (recover_tot (hg.mono0 hH) _ _ _ (hH.rd hu) (by first | omega | (simp; done) | (simp; omega) | (simp [*]; omega) | (simp at *; omega)) _ _ (by assumption) (hH.rd hr) (by first | omega | (simp; done) | (simp; omega) | (simp [*]; omega) | (simp at *; omega)))) rfl ?_
  rintro _ w ⟨rfl, hC⟩ a hA
  replace hH := HS.call0 hH hC
  clear hC
  refine sq hA (q_move rfl) rfl fun a hA => ?_
  refine sq hA (q_extract rfl rfl) rfl fun a hA => ?_
  refine sq hA (q_extract rfl rfl) rfl fun a hA => ?_
  refine sl hA (lo_allocA hH ti24) rfl ?_
  clear hH; rintro _ w ⟨b_t9, rfl, hH⟩ a hA
  refine s0 hA (lo_storeAm hH ti24 rfl rfl (by first | omega | (simp; done) | (simp; omega) | (rw [List.length_map]; assumption) | assumption | rfl | (simp [*]; done) | (simp [*]; omega)) (by first | omega | (simp; done) | (simp; omega) | (rw [List.length_map]; assumption) | assumption | rfl | (simp [*]; done) | (simp [*]; omega)) (one_B8 _)) ?_
  clear hH; rintro _ w hH
  refine sq hA (q_assign rfl) rfl fun a hA => ?_
  refine wpList_nil ?_
  refine hK2 _ _ ?_
  clear hK2
  replace hA := hA.sub (E' := [(10, _), (9, _), (8, _), (4, _)]) ⟨rfl, rfl, rfl, rfl, trivial⟩
  refine wp_seq_k fun K3 hK3 => ?_
  refine wp_region_lit ?_
  refine sq hA (q_move rfl) rfl fun a hA => ?_
  refine sq hA (q_eqlI (n := 0) rfl rfl) rfl fun a hA => ?_
  refine hA.spl (fun hs19 hA => ?_) (fun hs19 hA => ?_)
  · skip
    refine sq hA (q_move rfl) rfl fun a hA => ?_
    refine gq hA rfl rfl (q_loadW hH 0 rfl Tryd.underlying24 rfl ti24 rfl (by first | omega | (simp; done) | (simp; omega) | (rw [List.length_map]; assumption) | assumption | rfl | (simp [*]; done) | (simp [*]; omega))) rfl fun a hA => ?_
    refine gq hA rfl rfl (q_loadW hH 1 rfl Tryd.underlying24 rfl ti24 rfl (by first | omega | (simp; done) | (simp; omega) | (rw [List.length_map]; assumption) | assumption | rfl | (simp [*]; done) | (simp [*]; omega))) rfl fun a hA => ?_
    refine gq hA rfl rfl (q_eqlA8 eqa24 rfl rfl rfl rfl (by first | rfl | assumption | exact sha_length _ | (simp; done) | (rw [List.length_map]; assumption) | (simp [*]; done) | omega) (by first | rfl | assumption | exact sha_length _ | (simp; done) | (rw [List.length_map]; assumption) | (simp [*]; done) | omega)) rfl fun a hA => ?_
    refine sq hA (q_pick_t rfl rfl) rfl fun a hA => ?_
    refine sq hA (q_assign rfl) rfl fun a hA => ?_
    refine wpList_nil ?_
    refine hK3 _ _ ?_
    clear hK3
    replace hA := hA.sub (E' := [(8, _)]) ⟨rfl, trivial⟩
    refine wp_ret ?_
    refine post_ret hA (res_1 rfl hA rfl) ?_
    replace hH := hH.pick [] (Hs' := []) rfl
    first | exact ⟨_, rfl, by have e0 : (recT n l sg).2 = 0 := (by omega); simp [e0], hH⟩ | exact ⟨_, rfl, by have e0 : ¬ (recT n l sg).2 = 0 := (by omega); simp [e0], hH⟩
  · skip
    refine sq hA (q_move rfl) rfl fun a hA => ?_
    refine gs hA rfl rfl rfl rfl fun a hA => ?_
    refine gs hA rfl rfl rfl rfl fun a hA => ?_
    refine gs hA rfl rfl rfl rfl fun a hA => ?_
    refine sq hA (q_pick_f rfl rfl) rfl fun a hA => ?_
    refine sq hA (q_assign rfl) rfl fun a hA => ?_
    refine wpList_nil ?_
    refine hK3 _ _ ?_
    clear hK3
    replace hA := hA.sub (E' := [(8, _)]) ⟨rfl, trivial⟩
    refine wp_ret ?_
    refine post_ret hA (res_1 rfl hA rfl) ?_
    replace hH := hH.pick [] (Hs' := []) rfl
    first | exact ⟨_, rfl, by have e0 : (recT n l sg).2 = 0 := (by omega); simp [e0], hH⟩ | exact ⟨_, rfl, by have e0 : ¬ (recT n l sg).2 = 0 := (by omega); simp [e0], hH⟩

theorem awake5_ne : (sha (2#8 :: (pubV (List.replicate 32 0#8) 4).flatten)).getD 0 0#8 ≠ 0#8 := by decide +kernel
theorem awake5_no (l : Bs) : ¬ ((recT 2 l (sigT (List.replicate 32 0#8) 2 l).1).2 = 0 ∧ (recT 2 l (sigT (List.replicate 32 0#8) 2 l).1).1 = (List.replicate 32 0#8)) := by
  rw [rec_back (by decide)]
  rintro ⟨_, h⟩
  have h2 : rootO (pubT (List.replicate 32 0#8) 2).1 = (List.replicate 32 0#8) := h
  exact awake5_ne (by show (rootO (pubT (List.replicate 32 0#8) 2).1).getD 0 0#8 = 0#8; rw [h2]; rfl)
theorem awake5_any {w0 : World} {lv : Nat} (hg : Gl lv w0)  :
    Calls Tryd.prog 27 #[] w0 (Ret fun r w' => r = .bool true ∧ HS [] w0 w' []) := by
  have hH := HS.start w0
  refine start (n := 41) (E := []) Tryd.func27 rfl rfl rfl (args_look rfl) ?_
  intro a hA
  have hd1 := pubT_dg (List.replicate 32 0#8) 2
  have hd2 := sigT_dg (List.replicate 32 0#8) 2 [97#8]
  have hl1 := pubT_len (List.replicate 32 0#8) 2
  have hl2 := sigT_len (List.replicate 32 0#8) 2 [97#8]
  refine wp_seq_k fun K1 hK1 => ?_
  refine wp_region_lit ?_
  refine sq hA (q_assign rfl) rfl fun a hA => ?_
  refine wpList_nil ?_
  refine hK1 _ _ ?_
  clear hK1
  refine wp_seq_k fun K2 hK2 => ?_
  refine wp_region_lit ?_
  refine sq hA (q_build (v := (.agg ((List.replicate 32 0#8).map B8).toArray)) (vs := []) rfl (fun w => by kernel_rfl)) rfl fun a hA => ?_
  refine sl hA (lo_call fn28 rfl (public_tot (hg.mono0 hH) _ (by first | rfl | assumption | exact sha_length _ | (simp; done) | (rw [List.length_map]; assumption) | (simp [*]; done) | omega) _)) rfl ?_
  rintro _ w ⟨v_t7, N_t7, rfl, hO_t7, hC⟩ a hA
  replace hH := HS.call0 hH hC
  clear hC
  refine sq hA (q_move rfl) rfl fun a hA => ?_
  refine sq hA (q_extract rfl rfl) rfl fun a hA => ?_
  refine sq hA (q_extract rfl rfl) rfl fun a hA => ?_
  refine sq hA (q_assign rfl) rfl fun a hA => ?_
  refine sq hA (q_assign rfl) rfl fun a hA => ?_
  refine wpList_nil ?_
  refine hK2 _ _ ?_
  clear hK2
  replace hA := hA.sub (E' := [(2, _), (1, _), (0, _)]) ⟨rfl, rfl, rfl, trivial⟩
  refine wp_seq_k fun K3 hK3 => ?_
  refine wp_region_lit ?_
  refine sq hA (q_build (v := (.agg ((List.replicate 32 0#8).map B8).toArray)) (vs := []) rfl (fun w => by kernel_rfl)) rfl fun a hA => ?_
  refine sl hA (lo_bs (f := B8) (e := 5) ([97#8]) hH rfl rfl (fun w => by kernel_rfl)) rfl ?_
  clear hH; rintro v_t12 w ⟨N_t12, hO_t12, hH⟩ a hA
  refine sl hA (lo_call fn32 rfl (sign_tot (hg.mono0 hH) _ (by first | rfl | assumption | exact sha_length _ | (simp; done) | (rw [List.length_map]; assumption) | (simp [*]; done) | omega) _ _ _ (Own.rd0 hO_t12 hH 0 rfl) (by first | omega | (simp; done) | (simp; omega) | (simp [*]; omega) | (simp at *; omega)))) rfl ?_
  rintro _ w ⟨v_t13, N_t13, rfl, hO_t13, hC⟩ a hA
  replace hH := HS.call0 hH hC
  clear hC
  refine sq hA (q_move rfl) rfl fun a hA => ?_
  refine sq hA (q_extract rfl rfl) rfl fun a hA => ?_
  refine sq hA (q_extract rfl rfl) rfl fun a hA => ?_
  refine sq hA (q_assign rfl) rfl fun a hA => ?_
  refine sq hA (q_assign rfl) rfl fun a hA => ?_
  refine wpList_nil ?_
  refine hK3 _ _ ?_
  clear hK3
  replace hA := hA.sub (E' := [(4, _), (3, _), (2, _), (1, _), (0, _)]) ⟨rfl, rfl, rfl, rfl, rfl, trivial⟩
  refine wp_seq_k fun K4 hK4 => ?_
  refine wp_region_lit ?_
  refine sq hA (q_move rfl) rfl fun a hA => ?_
  refine sq hA (q_eqlI (n := 0) rfl rfl) rfl fun a hA => ?_
  replace hA := hA.decT (by first | rfl | omega | assumption | (simp; done) | (simp [*]; done))
  refine sq hA (q_move rfl) rfl fun a hA => ?_
  refine gq hA rfl rfl (q_move rfl) rfl fun a hA => ?_
  refine gq hA rfl rfl (q_eqlI (n := 0) rfl rfl) rfl fun a hA => ?_
  refine sq hA (q_pick_t rfl rfl) rfl fun a hA => ?_
  replace hA := hA.decT (by first | rfl | omega | assumption | (simp; done) | (simp [*]; done))
  refine sq hA (q_move rfl) rfl fun a hA => ?_
  refine gq hA rfl rfl (q_move rfl) rfl fun a hA => ?_
  refine gq hA rfl rfl (q_len Tryd.underlying22 rfl (Own.shp hO_t7)) rfl fun a hA => ?_
  refine gq hA rfl rfl (q_eqlI (n := 4) rfl rfl) rfl fun a hA => ?_
  refine sq hA (q_pick_t rfl rfl) rfl fun a hA => ?_
  replace hA := hA.decT (by first | rfl | omega | assumption | (simp; done) | (simp [*]; done))
  refine sq hA (q_move rfl) rfl fun a hA => ?_
  refine gq hA rfl rfl (q_move rfl) rfl fun a hA => ?_
  refine gl hA rfl rfl (lo_call fn30 rfl (oroot_any (hg.mono0 hH) _ _ (by assumption) (Own.rd0 hO_t7 hH 2 rfl) (by first | omega | (simp; done) | (simp; omega) | (simp [*]; omega) | (simp at *; omega)))) rfl ?_
  rintro _ w ⟨rfl, hC⟩ a hA
  replace hH := HS.call0 hH hC
  clear hC
  refine gl hA rfl rfl (lo_bs (f := B8) (e := 5) ([97#8]) hH rfl rfl (fun w => by kernel_rfl)) rfl ?_
  clear hH; rintro v_t30 w ⟨N_t30, hO_t30, hH⟩ a hA
  refine gq hA rfl rfl (q_move rfl) rfl fun a hA => ?_
  refine gl hA rfl rfl (lo_call fn38 rfl (verify_any (hg.mono0 hH) _ (by first | rfl | assumption | exact sha_length _ | (simp; done) | (rw [List.length_map]; assumption) | (simp [*]; done) | omega) _ _ _ (Own.rd0 hO_t30 hH 0 rfl) (by first | omega | (simp; done) | (simp; omega) | (simp [*]; omega) | (simp at *; omega)) _ _ (by assumption) (Own.rd0 hO_t13 hH 1 rfl) (by first | omega | (simp; done) | (simp; omega) | (simp [*]; omega) | (simp at *; omega)))) rfl ?_
  rintro _ w ⟨rfl, hC⟩ a hA
  replace hH := HS.call0 hH hC
  clear hC
  refine sq hA (q_pick_t rfl rfl) rfl fun a hA => ?_
  replace hA := hA.decT (by rw [rec_back (by decide)]; exact ⟨rfl, rfl⟩)
  refine sq hA (q_move rfl) rfl fun a hA => ?_
  refine gq hA rfl rfl (q_build (v := (.agg ((List.replicate 32 0#8).map B8).toArray)) (vs := []) rfl (fun w => by kernel_rfl)) rfl fun a hA => ?_
  refine gl hA rfl rfl (lo_bs (f := B8) (e := 5) ([97#8]) hH rfl rfl (fun w => by kernel_rfl)) rfl ?_
  clear hH; rintro v_t36 w ⟨N_t36, hO_t36, hH⟩ a hA
  refine gq hA rfl rfl (q_move rfl) rfl fun a hA => ?_
  refine gl hA rfl rfl (lo_call fn38 rfl (verify_any (hg.mono0 hH) _ (by first | rfl | assumption | exact sha_length _ | (simp; done) | (rw [List.length_map]; assumption) | (simp [*]; done) | omega) _ _ _ (Own.rd0 hO_t36 hH 0 rfl) (by first | omega | (simp; done) | (simp; omega) | (simp [*]; omega) | (simp at *; omega)) _ _ (by assumption) (Own.rd0 hO_t13 hH 2 rfl) (by first | omega | (simp; done) | (simp; omega) | (simp [*]; omega) | (simp at *; omega)))) rfl ?_
  rintro _ w ⟨rfl, hC⟩ a hA
  replace hH := HS.call0 hH hC
  clear hC
  replace hA := hA.decF (by exact awake5_no _)
  refine gq hA rfl rfl (q_not rfl) rfl fun a hA => ?_
  refine sq hA (q_pick_t rfl rfl) rfl fun a hA => ?_
  refine sq hA (q_assign rfl) rfl fun a hA => ?_
  refine wpList_nil ?_
  refine hK4 _ _ ?_
  clear hK4
  replace hA := hA.sub (E' := [(0, _)]) ⟨rfl, trivial⟩
  refine wp_ret ?_
  refine post_ret hA (res_1 rfl hA rfl) ?_
  replace hH := hH.pick [] (Hs' := []) rfl
  exact ⟨_, rfl, rfl, hH⟩

end Go.Proofs.YtommjkbbgmkdoaaDoor
