/- Layer 20 (result): a result of bytes. -/
import Derived.Test.YtnnkgdijaekcfaaDoorId
import Derived.Test.YtnnkgdijaekcfaaDoorHn
import Derived.Test.YtnnkgdijaekcfaaDoorEd
namespace Go.Proofs.YtnnkgdijaekcfaaDoor
open Go
set_option linter.unusedVariables false
set_option linter.unusedSimpArgs false
set_option maxRecDepth 100000

theorem dect_any {w0 : World} (v : Value) (l : Bs) (hr : By [] w0 v l) (hl : l.length ≤ 1048576) (n h : Int) : Calls Tryd.prog 76 #[v, I n, I h] w0 (Ret fun r w' => ∃ u x N1 N2, r = .tuple #[.agg #[I (decT n h l).1.1, u, x], I (decT n h l).2] ∧ OwD 24 u (decT n h l).1.2.1 N1 ∧ OwD 24 x (decT n h l).1.2.2 N2 ∧ HS [] w0 w' [N1, N2]) := by
  by_cases hR : R7 n h
  · obtain ⟨m, rfl⟩ : ∃ m : Nat, n = m := ⟨n.toNat, by unfold R7 R5 at hR; omega⟩
    obtain ⟨k, rfl⟩ : ∃ m : Nat, h = m := ⟨h.toNat, by unfold R7 R5 at hR; omega⟩
    rw [decT_ok hR]
    exact dec7_any v l hr hl m k hR
  · rw [decT_bad hR]
    exact (dec7_bad v n h hR).mono fun e w' he => by
      obtain ⟨r, h1, h2, h3⟩ := he
      exact ⟨r, h1, nilV, nilV, [], [], h2, OwD.nil _, OwD.nil _, h3.nilFront.nilFront⟩
set_option maxHeartbeats 1000000 in
theorem dec20_any {w0 : World} (v : Value) (l : Bs) (hr : By [] w0 v l) (hl : l.length ≤ 1048576) (n h : Int) :
    Calls Tryd.prog 31 #[v, I n, I h] w0 (Ret fun r w' => ∃ a b u x N0 N1 N2 N3, r = .tuple #[.agg #[a, b, I (decR n h l).1.2.2.1, u, x], I (decR n h l).2] ∧ Ow B8 5 a (decR n h l).1.1 N0 ∧ Ow B8 5 b (decR n h l).1.2.1 N1 ∧ OwD 24 u (decR n h l).1.2.2.2.1 N2 ∧ OwD 24 x (decR n h l).1.2.2.2.2 N3 ∧ HS [] w0 w' [N0, N1, N2, N3]) := by
 have hH := HS.start w0
 refine start (n := 55) (E := [(0, _), (1, _), (2, _)]) Tryd.func31 rfl rfl rfl (args_look rfl) ?_
 intro a hA
 have htl := t_len l
 refine wp_seq_k fun K1 hK1 => ?_
 refine wp_region_lit ?_
 refine sl hA (lo_allocA hH ti29) rfl ?_
 clear hH; rintro _ w ⟨b_t6, rfl, hH⟩ a hA
 refine asg hA fun a hA => ?_
 refine wpList_nil ?_
 refine hK1 _ _ ?_
 clear hK1
 refine wp_seq_k fun K2 hK2 => ?_
 refine wp_region_lit ?_
 refine sl hA (lo_allocA hH ti29) rfl ?_
 clear hH; rintro _ w ⟨b_t8, rfl, hH⟩ a hA
 refine wpList_nil ?_
 refine hK2 _ _ ?_
 clear hK2
 refine wp_seq_k fun K3 hK3 => ?_
 refine wp_region_lit ?_
 refine sl hA (lo_alloc1 hH ti22 rfl) rfl ?_
 clear hH; rintro _ w ⟨b_t9, rfl, hH⟩ a hA
 refine wpList_nil ?_
 refine hK3 _ _ ?_
 clear hK3
 refine wp_seq_k fun K4 hK4 => ?_
 refine wp_region_lit ?_
 refine mv hA fun a hA => ?_
 refine sl hA (lo_call fn73 rfl (read_any _ _ (hH.rd hr) (by first | omega | (simp; done) | (simp; omega)))) rfl ?_
 rintro _ w ⟨b_t17, v_d17, N_d17, rfl, hO_d17, hC⟩ a hA
 replace hH := HS.call0 hH hC
 clear hC
 refine asg hA fun a hA => ?_
 refine wpList_nil ?_
 refine hK4 _ _ ?_
 clear hK4
 replace hA := hA.s7 10 9 8 7 6 1 2
 refine wp_seq_k fun K5 hK5 => ?_
 refine wp_region_lit ?_
 refine mv hA fun a hA => ?_
 refine sq hA (q_makeFunc rfl rfl) rfl fun a hA => ?_
 refine asg hA fun a hA => ?_
 refine wpList_nil ?_
 refine hK5 _ _ ?_
 clear hK5
 replace hA := hA.s8 11 10 9 8 7 6 1 2
 refine wp_seq_k fun K6 hK6 => ?_
 refine wp_seq_k fun K7 hK7 => ?_
 refine wp_region_lit ?_
 refine sq hA (q_fld 0 Tryd.underlying29 rfl rfl ti22 rfl) rfl fun a hA => ?_
 refine sq hA (q_fld 1 Tryd.underlying29 rfl rfl ti22 rfl) rfl fun a hA => ?_
 refine sq hA (q_buildV (vs := [(.pointer (some ⟨b_t8, 0, none⟩)), (.pointer (some ⟨b_t8, 1, none⟩)), (.pointer (some ⟨b_t9, 0, none⟩))]) (zs := [(.pointer none), (.pointer none), (.pointer none)]) (it := Tryd.t121) (ie := Tryd.t120) (by kernel_rfl) Tryd.underlying121 (by kernel_rfl) (by kernel_rfl) rfl rfl rfl (ones_cons rfl (ones_cons rfl (ones_cons rfl ones_nil)))) rfl fun a hA => ?_
 refine mv hA fun a hA => ?_
 refine wpList_nil ?_
 refine hK7 _ _ ?_
 clear hK7
 replace hA := hA.s10 23 22 11 10 9 8 7 6 1 2
 refine wp_block ?_
 replace hH := hH.nilFront
 replace hH := hH.nilFront
 replace hH := hH.nilFront
 replace hH := hH.pick [3, 4, 6, 5, 0, 1, 2, 7] (Hs' := [_, _, _, _, _, _, _, _]) rfl
 replace hH := HS.fold [_, _, _, _, _, _, _] [_] hH
 obtain ⟨NR8, hNR8, hH⟩ := hH
 refine wp_loop_ghost (fun gm a w => ∃ i : Nat, ∃ k : Nat, ∃ e : Nat, ∃ c_0 : Value, ∃ c_1 : Value, ∃ c_2 : Value, ∃ N_n0 : Hl, ∃ N_n1 : Hl, ∃ N_n2 : Hl, At 55 [(23, I i), (22, (.agg #[.pointer (some ⟨b_t8, 0, none⟩), .pointer (some ⟨b_t8, 1, none⟩), .pointer (some ⟨b_t9, 0, none⟩)])), (11, (.func (.func 74) #[.pointer (some ⟨b_t17, 0, none⟩)] #[])), (10, (.pointer (some ⟨b_t17, 0, none⟩))), (9, (.pointer (some ⟨b_t9, 0, none⟩))), (8, (.pointer (some ⟨b_t8, 0, none⟩))), (7, (I 0)), (6, (.pointer (some ⟨b_t6, 0, none⟩))), (1, I n), (2, I h)] a ∧ HS [] w0 w ([[(b_t17, Obj.cells [v_d17, I (k), I (e)].toArray 167 (0, 0))], N_d17, [(b_t8, Obj.cells [c_0, c_1, I 0, nilV, nilV].toArray 29 (0, 0))], [(b_t9, Obj.cells [c_2].toArray 22 (0, 0))], N_n0, N_n1, N_n2, NR8]) ∧ (i ≤ 3) ∧ (k ≤ l.length) ∧ (l.drop k = (tS l i).1) ∧ (e = (tS l i).2) ∧ (Ow B8 5 c_0 (tA l i) N_n0) ∧ (Ow B8 5 c_1 (tB l i) N_n1) ∧ (Ow B8 5 c_2 (tC l i) N_n2) ∧ gm = 3 - i) (3 - (0)) ⟨0, 0, 0, nilV, nilV, nilV, [], [], [], hA.sub ⟨rfl, rfl, rfl, rfl, rfl, rfl, rfl, rfl, rfl, rfl, trivial⟩, hH, by omega, by exact Nat.zero_le _, by (rw [List.drop_zero, tS]), by rw [tS], by exact Ow.nil B8 _, by exact Ow.nil B8 _, by exact Ow.nil B8 _, rfl⟩ ?_
 clear hA hH
 rintro gm a w ⟨i, k, e, c_0, c_1, c_2, N_n0, N_n1, N_n2, hA, hH, hi, hk, hd, he, hO_n0, hO_n1, hO_n2, rfl⟩
 refine wp_seq_k fun K9 hK9 => ?_
 refine wp_region_lit ?_
 refine sq hA (q_lssI (n := 3) rfl rfl) rfl fun a hA => ?_
 rcases (show i = 0 ∨ i = 1 ∨ i = 2 ∨ i = 3 by omega) with rfl | rfl | rfl | rfl
 ·skip
  replace hA := hA.decT (by decide)
  refine wpList_nil ?_
  refine hK9 _ _ ?_
  clear hK9
  refine wp_seq_k fun K10 hK10 => ?_
  refine cond_t hA rfl ?_
  refine wp_skip ?_
  refine hK10 _ _ ?_
  clear hK10
  refine wp_seq_k fun K11 hK11 => ?_
  refine wp_block ?_
  refine wp_seq_k fun K12 hK12 => ?_
  refine wp_region_lit ?_
  refine mv hA fun a hA => ?_
  refine sq hA (q_index Tryd.underlying121 ti120 Tryd.underlying120 rfl rfl rfl ⟨by decide, by decide⟩ rfl) rfl fun a hA => ?_
  refine asg hA fun a hA => ?_
  refine asg hA fun a hA => ?_
  refine wpList_nil ?_
  refine hK12 _ _ ?_
  clear hK12
  refine wp_seq_k fun K13 hK13 => ?_
  refine wp_region_lit ?_
  refine asg hA fun a hA => ?_
  refine wpList_nil ?_
  refine hK13 _ _ ?_
  clear hK13
  refine wp_seq_k fun K14 hK14 => ?_
  refine wp_seq_k fun K15 hK15 => ?_
  refine wp_region_lit ?_
  refine mv hA fun a hA => ?_
  refine wpList_nil ?_
  refine hK15 _ _ ?_
  clear hK15
  refine wp_block ?_
  refine wp_seq_k fun K16 hK16 => ?_
  refine wp_region_lit ?_
  refine sq hA (q_eqlI (n := 0) rfl rfl) rfl fun a hA => ?_
  refine asg hA fun a hA => ?_
  refine wpList_nil ?_
  refine hK16 _ _ ?_
  clear hK16
  refine cond_d hA rfl (fun _ => ?_) (fun hnn => absurd (rfl) hnn)
  refine wp_region_lit ?_
  refine asg hA fun a hA => ?_
  refine wpList_nil ?_
  refine block_normal ?_
  refine hK14 _ _ ?_
  clear hK14
  refine wp_region_lit ?_
  refine mv hA fun a hA => ?_
  refine mv hA fun a hA => ?_
  refine mv hA fun a hA => ?_
  refine sl hA (lo_callv (first := _) (cap := _) fn74 rfl rfl (rtext_any b_t17 _ _ _ _ (Own.rdM hO_d17 (Ns1 := [_]) hH 0 rfl) hk (by omega) _ (by decide) (HS.handed (Ns1 := [_]) hH))) rfl ?_
  rintro _ w ⟨k_t35, v_t35, N_t35, rfl, hO_t35, hk_t35, hd_t35, hC⟩ a hA
  replace hH := HS.call (Ns1 := [_]) hH hC
  clear hC
  have eS : (l.drop k, e) = tS l 0 := Prod.ext hd he
  rw [eS] at hH hO_t35 hd_t35
  rw [← t0_eq] at hO_t35
  rw [← tS_1'] at hH hd_t35
  refine sq hA (q_nilCheck rfl) rfl fun a hA => ?_
  replace hH := hH.pick [3, 0, 1, 2, 4, 5, 6, 7, 8] (Hs' := [_, _, _, _, _, _, _, _, _]) rfl
  refine s0 hA (lo_store1 hH ti22 rfl rfl (by first | omega | (simp; done) | (simp; omega) | (rw [List.length_map]; assumption) | assumption | rfl | (simp [*]; done) | (simp [*]; omega)) (Own.one hO_t35)) ?_
  clear hH; rintro _ w hH
  refine wpList_nil ?_
  refine block_normal ?_
  refine hK11 _ _ ?_
  clear hK11
  refine wp_region_lit ?_
  refine sq hA (q_addI (n := 1) rfl rfl (by omega)) rfl fun a hA => ?_
  refine mv hA fun a hA => ?_
  refine wpList_nil ?_
  replace hH := hH.pick [1, 3, 0, 4, 2, 6, 7, 8, 5] (Hs' := [_, _, _, _, _, _, _, _, _]) rfl
  replace hH := hH.pick [0, 1, 2, 3, 4, 5, 6, 7] (Hs' := [_, _, _, _, _, _, _, _]) rfl
  exact ⟨_, by omega, 1, k_t35, _, v_t35, c_1, c_2, N_t35, N_n1, N_n2, hA.sub ⟨rfl, rfl, rfl, rfl, rfl, rfl, rfl, rfl, rfl, rfl, trivial⟩, hH, by omega, by exact hk_t35, by exact hd_t35, by rfl, by exact hO_t35, by exact hO_n1, by exact hO_n2, rfl⟩
 ·skip
  replace hA := hA.decT (by decide)
  refine wpList_nil ?_
  refine hK9 _ _ ?_
  clear hK9
  refine wp_seq_k fun K17 hK17 => ?_
  refine cond_t hA rfl ?_
  refine wp_skip ?_
  refine hK17 _ _ ?_
  clear hK17
  refine wp_seq_k fun K18 hK18 => ?_
  refine wp_block ?_
  refine wp_seq_k fun K19 hK19 => ?_
  refine wp_region_lit ?_
  refine mv hA fun a hA => ?_
  refine sq hA (q_index Tryd.underlying121 ti120 Tryd.underlying120 rfl rfl rfl ⟨by decide, by decide⟩ rfl) rfl fun a hA => ?_
  refine asg hA fun a hA => ?_
  refine asg hA fun a hA => ?_
  refine wpList_nil ?_
  refine hK19 _ _ ?_
  clear hK19
  refine wp_seq_k fun K20 hK20 => ?_
  refine wp_region_lit ?_
  refine asg hA fun a hA => ?_
  refine wpList_nil ?_
  refine hK20 _ _ ?_
  clear hK20
  refine wp_seq_k fun K21 hK21 => ?_
  refine wp_seq_k fun K22 hK22 => ?_
  refine wp_region_lit ?_
  refine mv hA fun a hA => ?_
  refine wpList_nil ?_
  refine hK22 _ _ ?_
  clear hK22
  refine wp_block ?_
  refine wp_seq_k fun K23 hK23 => ?_
  refine wp_region_lit ?_
  refine sq hA (q_eqlI (n := 0) rfl rfl) rfl fun a hA => ?_
  refine asg hA fun a hA => ?_
  refine wpList_nil ?_
  refine hK23 _ _ ?_
  clear hK23
  refine cond_d hA rfl (fun hnn => absurd hnn (by decide)) (fun _ => ?_)
  refine wp_seq_k fun K24 hK24 => ?_
  refine wp_region_lit ?_
  refine sq hA (q_eqlI (n := 1) rfl rfl) rfl fun a hA => ?_
  refine asg hA fun a hA => ?_
  refine wpList_nil ?_
  refine hK24 _ _ ?_
  clear hK24
  refine cond_d hA rfl (fun _ => ?_) (fun hnn => absurd (rfl) hnn)
  refine wp_region_lit ?_
  refine asg hA fun a hA => ?_
  refine wpList_nil ?_
  refine block_normal ?_
  refine hK21 _ _ ?_
  clear hK21
  refine wp_region_lit ?_
  refine mv hA fun a hA => ?_
  refine mv hA fun a hA => ?_
  refine mv hA fun a hA => ?_
  refine sl hA (lo_callv (first := _) (cap := _) fn74 rfl rfl (rtext_any b_t17 _ _ _ _ (Own.rdM hO_d17 (Ns1 := [_]) hH 0 rfl) hk (by omega) _ (by decide) (HS.handed (Ns1 := [_]) hH))) rfl ?_
  rintro _ w ⟨k_t35, v_t35, N_t35, rfl, hO_t35, hk_t35, hd_t35, hC⟩ a hA
  replace hH := HS.call (Ns1 := [_]) hH hC
  clear hC
  have eS : (l.drop k, e) = tS l 1 := Prod.ext hd he
  rw [eS] at hH hO_t35 hd_t35
  rw [← t1_eq] at hO_t35
  rw [← tS_2] at hH hd_t35
  refine sq hA (q_nilCheck rfl) rfl fun a hA => ?_
  replace hH := hH.pick [3, 0, 1, 2, 4, 5, 6, 7, 8] (Hs' := [_, _, _, _, _, _, _, _, _]) rfl
  refine s0 hA (lo_store1 hH ti22 rfl rfl (by first | omega | (simp; done) | (simp; omega) | (rw [List.length_map]; assumption) | assumption | rfl | (simp [*]; done) | (simp [*]; omega)) (Own.one hO_t35)) ?_
  clear hH; rintro _ w hH
  refine wpList_nil ?_
  refine block_normal ?_
  refine hK18 _ _ ?_
  clear hK18
  refine wp_region_lit ?_
  refine sq hA (q_addI (n := 1) rfl rfl (by omega)) rfl fun a hA => ?_
  refine mv hA fun a hA => ?_
  refine wpList_nil ?_
  replace hH := hH.pick [1, 3, 0, 4, 5, 2, 7, 8, 6] (Hs' := [_, _, _, _, _, _, _, _, _]) rfl
  replace hH := hH.pick [0, 1, 2, 3, 4, 5, 6, 7] (Hs' := [_, _, _, _, _, _, _, _]) rfl
  exact ⟨_, by omega, 2, k_t35, _, c_0, v_t35, c_2, N_n0, N_t35, N_n2, hA.sub ⟨rfl, rfl, rfl, rfl, rfl, rfl, rfl, rfl, rfl, rfl, trivial⟩, hH, by omega, by exact hk_t35, by exact hd_t35, by rfl, by exact hO_n0, by exact hO_t35, by exact hO_n2, rfl⟩
 ·skip
  replace hA := hA.decT (by decide)
  refine wpList_nil ?_
  refine hK9 _ _ ?_
  clear hK9
  refine wp_seq_k fun K25 hK25 => ?_
  refine cond_t hA rfl ?_
  refine wp_skip ?_
  refine hK25 _ _ ?_
  clear hK25
  refine wp_seq_k fun K26 hK26 => ?_
  refine wp_block ?_
  refine wp_seq_k fun K27 hK27 => ?_
  refine wp_region_lit ?_
  refine mv hA fun a hA => ?_
  refine sq hA (q_index Tryd.underlying121 ti120 Tryd.underlying120 rfl rfl rfl ⟨by decide, by decide⟩ rfl) rfl fun a hA => ?_
  refine asg hA fun a hA => ?_
  refine asg hA fun a hA => ?_
  refine wpList_nil ?_
  refine hK27 _ _ ?_
  clear hK27
  refine wp_seq_k fun K28 hK28 => ?_
  refine wp_region_lit ?_
  refine asg hA fun a hA => ?_
  refine wpList_nil ?_
  refine hK28 _ _ ?_
  clear hK28
  refine wp_seq_k fun K29 hK29 => ?_
  refine wp_seq_k fun K30 hK30 => ?_
  refine wp_region_lit ?_
  refine mv hA fun a hA => ?_
  refine wpList_nil ?_
  refine hK30 _ _ ?_
  clear hK30
  refine wp_block ?_
  refine wp_seq_k fun K31 hK31 => ?_
  refine wp_region_lit ?_
  refine sq hA (q_eqlI (n := 0) rfl rfl) rfl fun a hA => ?_
  refine asg hA fun a hA => ?_
  refine wpList_nil ?_
  refine hK31 _ _ ?_
  clear hK31
  refine cond_d hA rfl (fun hnn => absurd hnn (by decide)) (fun _ => ?_)
  refine wp_seq_k fun K32 hK32 => ?_
  refine wp_region_lit ?_
  refine sq hA (q_eqlI (n := 1) rfl rfl) rfl fun a hA => ?_
  refine asg hA fun a hA => ?_
  refine wpList_nil ?_
  refine hK32 _ _ ?_
  clear hK32
  refine cond_d hA rfl (fun hnn => absurd hnn (by decide)) (fun _ => ?_)
  refine wp_skip ?_
  refine block_normal ?_
  refine hK29 _ _ ?_
  clear hK29
  refine wp_region_lit ?_
  refine mv hA fun a hA => ?_
  refine mv hA fun a hA => ?_
  refine mv hA fun a hA => ?_
  refine sl hA (lo_callv (first := _) (cap := _) fn74 rfl rfl (rtext_any b_t17 _ _ _ _ (Own.rdM hO_d17 (Ns1 := [_]) hH 0 rfl) hk (by omega) _ (by decide) (HS.handed (Ns1 := [_]) hH))) rfl ?_
  rintro _ w ⟨k_t35, v_t35, N_t35, rfl, hO_t35, hk_t35, hd_t35, hC⟩ a hA
  replace hH := HS.call (Ns1 := [_]) hH hC
  clear hC
  have eS : (l.drop k, e) = tS l 2 := Prod.ext hd he
  rw [eS] at hH hO_t35 hd_t35
  rw [← t2_eq] at hO_t35
  rw [← tS_3] at hH hd_t35
  refine sq hA (q_nilCheck rfl) rfl fun a hA => ?_
  replace hH := hH.pick [4, 0, 1, 2, 3, 5, 6, 7, 8] (Hs' := [_, _, _, _, _, _, _, _, _]) rfl
  refine s0 hA (lo_store1 hH ti22 rfl rfl (by first | omega | (simp; done) | (simp; omega) | (rw [List.length_map]; assumption) | assumption | rfl | (simp [*]; done) | (simp [*]; omega)) (Own.one hO_t35)) ?_
  clear hH; rintro _ w hH
  refine wpList_nil ?_
  refine block_normal ?_
  refine hK26 _ _ ?_
  clear hK26
  refine wp_region_lit ?_
  refine sq hA (q_addI (n := 1) rfl rfl (by omega)) rfl fun a hA => ?_
  refine mv hA fun a hA => ?_
  refine wpList_nil ?_
  replace hH := hH.pick [1, 3, 4, 0, 5, 6, 2, 8, 7] (Hs' := [_, _, _, _, _, _, _, _, _]) rfl
  replace hH := hH.pick [0, 1, 2, 3, 4, 5, 6, 7] (Hs' := [_, _, _, _, _, _, _, _]) rfl
  exact ⟨_, by omega, 3, k_t35, _, c_0, c_1, v_t35, N_n0, N_n1, N_t35, hA.sub ⟨rfl, rfl, rfl, rfl, rfl, rfl, rfl, rfl, rfl, rfl, trivial⟩, hH, by omega, by exact hk_t35, by exact hd_t35, by rfl, by exact hO_n0, by exact hO_n1, by exact hO_t35, rfl⟩
 ·skip
  replace hA := hA.decF (by decide)
  have eS : (l.drop k, e) = tS l 3 := Prod.ext hd he
  rw [tA_3] at hO_n0
  rw [tB_3] at hO_n1
  rw [tC_3] at hO_n2
  refine wpList_nil ?_
  refine hK9 _ _ ?_
  clear hK9
  refine wp_seq_k fun K33 hK33 => ?_
  refine cond_f hA rfl ?_
  refine wp_exit ?_
  refine then_exit ?_
  replace hH := HS.unfold [_, _, _, _, _, _, _] hNR8 hH
  refine then_exit ?_
  refine exit_here ?_
  refine hK6 _ _ ?_
  clear hK6
  replace hA := hA.s7 10 9 8 7 6 1 2
  refine wp_seq_k fun K34 hK34 => ?_
  refine wp_region_lit ?_
  refine mv hA fun a hA => ?_
  refine sl hA (lo_call fn75 rfl (rend_any b_t17 _ _ _ _ (Own.rdM hO_d17 (Ns1 := [_]) hH 0 rfl) (by assumption) (by omega) (HS.handed (Ns1 := [_]) hH))) rfl ?_
  rintro _ w ⟨rfl, hC⟩ a hA
  replace hH := HS.call (Ns1 := [_]) hH hC
  clear hC
  rw [eS] at hA hH
  refine asg hA fun a hA => ?_
  refine wpList_nil ?_
  refine hK34 _ _ ?_
  clear hK34
  replace hA := hA.s7 15 9 8 7 6 1 2
  refine wp_seq_k fun K35 hK35 => ?_
  refine wp_seq_k fun K36 hK36 => ?_
  refine wp_region_lit ?_
  refine mv hA fun a hA => ?_
  refine sq hA (q_eqlI (n := 0) rfl rfl) rfl fun a hA => ?_
  refine hA.spl (fun hs41 hA => ?_) (fun hs41 hA => ?_)
  ·skip
   refine wpList_nil ?_
   refine hK36 _ _ ?_
   clear hK36
   replace hA := hA.s8 41 15 9 8 7 6 1 2
   refine cond_t hA rfl ?_
   refine wp_region_lit ?_
   refine sq hA (q_loadB hH 3 rfl (List.mem_singleton.2 rfl) Tryd.underlying22 rfl rfl rfl) rfl fun a hA => ?_
   refine mv hA fun a hA => ?_
   refine mv hA fun a hA => ?_
   refine sl hA (lo_call fn76 rfl (dect_any _ _ (Own.rd0 hO_n2 hH 6 rfl) (by first | omega | (simp; done) | (simp; omega)) _ _)) rfl ?_
   rintro _ w ⟨v_ot46, v_pt46, N_ot46, N_pt46, rfl, hOo_t46, hOp_t46, hC⟩ a hA
   replace hH := HS.call0 hH hC
   clear hC
   refine mv hA fun a hA => ?_
   refine sq hA (q_extract rfl rfl) rfl fun a hA => ?_
   refine sq hA (q_extract rfl rfl) rfl fun a hA => ?_
   refine sq hA (q_fld 2 Tryd.underlying29 rfl rfl ti27 rfl) rfl fun a hA => ?_
   replace hH := hH.pick [4, 0, 1, 2, 3, 5, 6, 7, 8, 9] (Hs' := [_, _, _, _, _, _, _, _, _, _]) rfl
   refine s0 hA (lo_storeP hH ti27 rfl rfl (rfl) ((show 2 + 3 ≤ 5 by decide)) (ones_cons rfl (ones_cons (Own.one hOo_t46) (ones_cons (Own.one hOp_t46) ones_nil)))) ?_
   clear hH; rintro _ w hH
   refine asg hA fun a hA => ?_
   refine wpList_nil ?_
   refine hK35 _ _ ?_
   clear hK35
   replace hA := hA.s4 15 8 7 6
   refine wp_seq_k fun K37 hK37 => ?_
   refine wp_seq_k fun K38 hK38 => ?_
   refine wp_region_lit ?_
   refine mv hA fun a hA => ?_
   refine sq hA (q_neqI (n := 0) rfl rfl) rfl fun a hA => ?_
   refine wpList_nil ?_
   refine hK38 _ _ ?_
   clear hK38
   replace hA := hA.s5 51 15 8 7 6
   refine cond_d hA rfl (fun hc51 => ?_) (fun hc51 => ?_)
   ·skip
    have hR : decR n h l = _ := decR_2 (by omega) (by omega)
    refine wp_seq_k fun K39 hK39 => ?_
    refine wp_region_lit ?_
    refine sq hA (q_build (v := (.agg ([(.slice none 0 0), (.slice none 0 0), (I 0), (.slice none 0 0), (.slice none 0 0)]).toArray)) (vs := []) rfl (fun w => by kernel_rfl)) rfl fun a hA => ?_
    refine mv hA fun a hA => ?_
    replace hH := hH.pick [9, 0, 1, 2, 3, 4, 5, 6, 7, 8] (Hs' := [_, _, _, _, _, _, _, _, _, _]) rfl
    refine s0 hA (lo_storeAm hH ti29 rfl rfl (rfl) (rfl) (ones_cons rfl (ones_cons rfl (ones_cons rfl (ones_cons rfl (ones_cons rfl ones_nil)))))) ?_
    clear hH; rintro _ w hH
    refine asg hA fun a hA => ?_
    refine wpList_nil ?_
    refine hK39 _ _ ?_
    clear hK39
    replace hA := hA.s3 7 8 6
    refine wp_ret ?_
    refine then_ret ?_
    refine post_ret hA (res_c1 rfl hA rfl rfl (resW hH 0 rfl Tryd.underlying29 rfl ti29 (rfl))) ?_
    replace hH := hH.pick [] (Hs' := []) rfl
    refine ⟨_, rfl, ?_⟩
    rw [hR]
    exact ⟨nilV, nilV, nilV, nilV, [], [], [], [], rfl, Ow.nil B8 _, Ow.nil B8 _, OwD.nil _, OwD.nil _, hH.nilFront.nilFront.nilFront.nilFront⟩
   ·skip
    have hR : decR n h l = _ := decR_3 (by omega) (by omega)
    refine wp_skip ?_
    refine hK37 _ _ ?_
    clear hK37
    replace hA := hA.s3 8 7 6
    refine wp_seq_k fun K40 hK40 => ?_
    refine wp_region_lit ?_
    refine sq hA (q_loadW hH 0 rfl Tryd.underlying29 rfl ti29 rfl (rfl)) rfl fun a hA => ?_
    replace hH := hH.pick [9, 0, 1, 2, 3, 4, 5, 6, 7, 8] (Hs' := [_, _, _, _, _, _, _, _, _, _]) rfl
    refine s0 hA (lo_storeAm hH ti29 rfl rfl (rfl) (rfl) (ones_cons (Own.one hO_n0) (ones_cons (Own.one hO_n1) (ones_cons rfl (ones_cons (Own.one hOo_t46) (ones_cons (Own.one hOp_t46) ones_nil)))))) ?_
    clear hH; rintro _ w hH
    refine asg hA fun a hA => ?_
    refine wpList_nil ?_
    refine hK40 _ _ ?_
    clear hK40
    replace hA := hA.s2 7 6
    refine wp_ret ?_
    refine post_ret hA (res_c1 rfl hA rfl rfl (resW hH 0 rfl Tryd.underlying29 rfl ti29 (rfl))) ?_
    replace hH := hH.pick [7, 8, 2, 3, 0, 1, 4, 5, 6, 9] (Hs' := [_, _, _, _, _, _, _, _, _, _]) rfl
    replace hH := hH.pick [0, 1, 2, 3] (Hs' := [_, _, _, _]) rfl
    refine ⟨_, rfl, ?_⟩
    rw [hR]
    exact ⟨c_0, c_1, v_ot46, v_pt46, N_n0, N_n1, N_ot46, N_pt46, rfl, hO_n0, hO_n1, hOo_t46, hOp_t46, hH⟩
  ·skip
   have hR : decR n h l = _ := decR_1 (by omega)
   refine wpList_nil ?_
   refine hK36 _ _ ?_
   clear hK36
   replace hA := hA.s8 41 15 9 8 7 6 1 2
   refine cond_f hA rfl ?_
   refine wp_skip ?_
   refine hK35 _ _ ?_
   clear hK35
   replace hA := hA.s4 15 8 7 6
   refine wp_seq_k fun K41 hK41 => ?_
   refine wp_seq_k fun K42 hK42 => ?_
   refine wp_region_lit ?_
   refine mv hA fun a hA => ?_
   refine sq hA (q_neqI (n := 0) rfl rfl) rfl fun a hA => ?_
   refine wpList_nil ?_
   refine hK42 _ _ ?_
   clear hK42
   replace hA := hA.s5 51 15 8 7 6
   refine cond_d hA rfl (fun _ => ?_) (fun hnn => absurd (by omega) hnn)
   refine wp_seq_k fun K43 hK43 => ?_
   refine wp_region_lit ?_
   refine sq hA (q_build (v := (.agg ([(.slice none 0 0), (.slice none 0 0), (I 0), (.slice none 0 0), (.slice none 0 0)]).toArray)) (vs := []) rfl (fun w => by kernel_rfl)) rfl fun a hA => ?_
   refine mv hA fun a hA => ?_
   replace hH := hH.pick [7, 0, 1, 2, 3, 4, 5, 6] (Hs' := [_, _, _, _, _, _, _, _]) rfl
   refine s0 hA (lo_storeAm hH ti29 rfl rfl (rfl) (rfl) (ones_cons rfl (ones_cons rfl (ones_cons rfl (ones_cons rfl (ones_cons rfl ones_nil)))))) ?_
   clear hH; rintro _ w hH
   refine asg hA fun a hA => ?_
   refine wpList_nil ?_
   refine hK43 _ _ ?_
   clear hK43
   replace hA := hA.s3 7 8 6
   refine wp_ret ?_
   refine then_ret ?_
   refine post_ret hA (res_c1 rfl hA rfl rfl (resW hH 0 rfl Tryd.underlying29 rfl ti29 (rfl))) ?_
   replace hH := hH.pick [] (Hs' := []) rfl
   refine ⟨_, rfl, ?_⟩
   rw [hR]
   exact ⟨nilV, nilV, nilV, nilV, [], [], [], [], rfl, Ow.nil B8 _, Ow.nil B8 _, OwD.nil _, OwD.nil _, hH.nilFront.nilFront.nilFront.nilFront⟩

end Go.Proofs.YtnnkgdijaekcfaaDoor
