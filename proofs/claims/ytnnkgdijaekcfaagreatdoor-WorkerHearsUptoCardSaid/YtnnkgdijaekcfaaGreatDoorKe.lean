/- Layer 22 (worker): the document's answer. -/
import Derived.Test.YtnnkgdijaekcfaaGreatDoorKd
import Derived.Test.YtnnkgdijaekcfaaGreatDoorMzc
namespace Go.Proofs.YtnnkgdijaekcfaaGreatDoor
open Go
set_option linter.unusedVariables false
set_option linter.unusedSimpArgs false
set_option maxRecDepth 100000

set_option maxHeartbeats 1000000 in
theorem hear_low {w0 : World} {lv : Nat} (hg : Gl lv w0) (key : Bs) (hkey : key.length = 32) (s : Bs) (hsd : s.length = 32) (n h : Nat) (hn : R7 n h) (v_l : Value) (b_w b_k b_s b_m : Nat) (hgM : NG lv [b_w, b_k, b_m]) (hSd : RdD [b_w, b_k, b_m] w0 (.slice (some ⟨b_s, 0, none⟩) 1 1) [s]) (hLv : RdD [b_w, b_k, b_m] w0 v_l (leavesK s n (2 ^ h))) (x : Nat) (hx : x ≤ 2 ^ h) (m : List (Int × Value)) (u : Value) (l : Bs) (hu : By [b_w, b_k, b_m] w0 u l) (hl : l.length ≤ 1000000) (D : (Nat × Nat × Nat × Bs × Bs × Bs) × Nat) (hD : D = decO key l) (he : D.2 = 0) (hmg : mget m (D.1.2.2.1 : Int) = none) (hlo : D.1.2.2.1 < x) (hH : HS [b_w, b_k, b_m] w0 w0 [[(b_w, Obj.cells (wkC b_k key b_m).toArray 64 (0, 0))], [(b_k, Obj.cells (keyC (.func (.func 48) #[] #[.pointer (some ⟨b_s, 0, none⟩)]) v_l (pubK s n h) n x).toArray 107 (0, 0))], [(b_m, mapO m)]]) :
    Calls Tryz.prog 12 #[(.pointer (some ⟨b_w, 0, none⟩)), u] w0 (Ret fun r w' => r = .tuple #[.slice none 0 0, I 70] ∧ HS [b_w, b_k, b_m] w0 w' [[(b_w, Obj.cells (wkC b_k key b_m).toArray 64 (0, 0))], [(b_k, Obj.cells (keyC (.func (.func 48) #[] #[.pointer (some ⟨b_s, 0, none⟩)]) v_l (pubK s n h) n x).toArray 107 (0, 0))], [(b_m, mapO m)]]) := by
 refine start (n := 120) (E := [(0, _), (1, _)]) Tryz.func12 rfl rfl rfl (args_look rfl) ?_
 intro a hA
 have hn5 := hn.1
 have hn1 := hn.1.1
 have hn2 := hn.1.2
 have hh6 : h ≤ 6 := by have := hn.2.2; omega
 have h64 := pow_le64 hh6
 have hp0 : 0 < 2 ^ h := Nat.pow_pos (by decide)
 have hPl := pubK_length s n h
 have hDn : D.1.2.2.2.2.2.length = 32 := by rw [hD]; exact decO_n key l
 have hDl : D.1.2.2.2.1.length ≤ l.length ∧ D.1.2.2.2.2.1.length ≤ l.length := by rw [hD]; exact decO_len key l
 have hshp : Shp v_l (2 ^ h) := by have := hLv.shp; rwa [leavesK_length] at this
 refine wp_seq_k fun K1 hK1 => ?_
 refine wp_region_lit ?_
 refine asg hA fun a hA => ?_
 refine asg hA fun a hA => ?_
 refine wpList_nil ?_
 refine hK1 _ _ ?_
 clear hK1
 refine wp_seq_k fun K2 hK2 => ?_
 refine wp_seq_k fun K3 hK3 => ?_
 refine wp_region_lit ?_
 refine mv hA fun a hA => ?_
 refine sq hA (q_ptrNil Tryz.underlying30 rfl rfl) rfl fun a hA => ?_
 refine wpList_nil ?_
 refine hK3 _ _ ?_
 clear hK3
 replace hA := hA.s5 14 5 4 0 1
 refine cond_f hA rfl ?_
 refine wp_skip ?_
 refine hK2 _ _ ?_
 clear hK2
 replace hA := hA.s4 5 4 0 1
 refine wp_seq_k fun K4 hK4 => ?_
 refine wp_region_lit ?_
 refine mv hA fun a hA => ?_
 refine sq hA (q_nilCheck rfl) rfl fun a hA => ?_
 refine sq hA (q_fld 1 Tryz.underlying64 rfl rfl ti25 rfl) rfl fun a hA => ?_
 refine sq hA (q_loadBA hH 0 rfl (List.mem_singleton.2 rfl) Tryz.underlying25 rfl ti25 rfl _ (wkC_from hkey) (by simp [hkey])) rfl fun a hA => ?_
 refine mv hA fun a hA => ?_
 refine sl hA (lo_call fn26 rfl (decw_g (hg.mono hH hgM) _ (by first | assumption | (rw [List.length_map]; assumption) | rfl | exact sha_length _ | (simp; done) | (simp [*]; done) | omega) _ _ (hH.rd hu) (by first | omega | (simp; done) | (simp; omega)) hD)) rfl ?_
 rintro _ w ⟨v_at21, v_bt21, N_at21, N_bt21, rfl, hO_at21, hO_bt21, hC⟩ a hA
 replace hH := HS.call0 hH hC
 clear hC
 refine mv hA fun a hA => ?_
 refine sq hA (q_extract rfl rfl) rfl fun a hA => ?_
 refine sq hA (q_extract rfl rfl) rfl fun a hA => ?_
 refine sl hA (lo_allocA hH ti45) rfl ?_
 clear hH; rintro _ w ⟨b_t6, rfl, hH⟩ a hA
 refine s0 hA (lo_storeAm hH ti45 rfl rfl (by first | rfl | exact ordC_length hDn) (by first | rfl | exact ordC_length hDn) (ordC_one (Own.one hO_at21) (Own.one hO_bt21))) ?_
 clear hH; rintro _ w hH
 refine asg hA fun a hA => ?_
 refine wpList_nil ?_
 refine hK4 _ _ ?_
 clear hK4
 replace hA := hA.s6 7 6 5 4 0 1
 refine wp_seq_k fun K5 hK5 => ?_
 refine wp_seq_k fun K6 hK6 => ?_
 refine wp_region_lit ?_
 refine mv hA fun a hA => ?_
 refine sq hA (q_neqI (n := 0) rfl rfl) rfl fun a hA => ?_
 refine wpList_nil ?_
 refine hK6 _ _ ?_
 clear hK6
 replace hA := hA.s7 25 7 6 5 4 0 1
 refine cond_d hA rfl (fun hnn => absurd hnn (by omega)) (fun _ => ?_)
 refine wp_skip ?_
 refine hK5 _ _ ?_
 clear hK5
 replace hA := hA.s6 7 6 5 4 0 1
 refine wp_seq_k fun K7 hK7 => ?_
 refine wp_seq_k fun K8 hK8 => ?_
 refine any_go mixed (fun j => !(Nat.beq j 11)) hH ?_
 clear hH; intro w hH
 have hS := hH
 refine any_l 13 ?_
 refine p0 hA 0 1 rfl (fun w => (q_move rfl)) fun a hA => ?_
 refine p0 hA 1 3 rfl (fun w => (q_nilCheck rfl)) fun a hA => ?_
 refine p0 hA 2 7 rfl (fun w => (q_fld 33 Tryz.underlying64 rfl rfl ti62 rfl)) fun a hA => ?_
 refine r0 hA 3 15 rfl hS (fun w hH => (q_loadB hH 3 rfl (List.mem_singleton.2 rfl) Tryz.underlying62 rfl rfl (wkC_33 hkey))) fun a hA => ?_
 refine p0 hA 4 31 rfl (fun w => (q_fld 2 Tryz.underlying45 rfl rfl ti3 rfl)) fun a hA => ?_
 refine r0 hA 5 63 rfl hS (fun w hH => (q_loadB hH 0 rfl (List.mem_singleton.2 rfl) Tryz.underlying3 rfl rfl rfl)) fun a hA => ?_
 refine r0 hA 6 127 rfl hS (fun w hH => (q_lookup hH 5 rfl Tryz.underlying62 Tryz.underlying3 ti76 rfl rfl)) fun a hA => ?_
 rw [hmg] at hA
 simp only [Option.getD_none, Option.isSome_none] at hA
 refine p0 hA 7 255 rfl (fun w => (q_move rfl)) fun a hA => ?_
 refine p0 hA 8 511 rfl (fun w => (q_extract rfl rfl)) fun a hA => ?_
 refine p0 hA 9 1023 rfl (fun w => (q_extract rfl rfl)) fun a hA => ?_
 refine a1 hA 10 2047 rfl (lo_allocA hH ti76) ?_
 clear hH; rintro _ w ⟨b_t8, rfl, hH⟩
 replace hS := hH.pick [1, 2, 3, 4, 5, 6] (Hs' := [_, _, _, _, _, _]) rfl
 refine ⟨fun _ _ => hS, ?_⟩
 intro a hA
 refine a0n hA 11 4095 rfl (lo_storeAm hH ti76 rfl rfl (rfl) (rfl) (ones_cons rfl (ones_cons rfl ones_nil))) ?_
 clear hH; rintro _ w hH
 refine p0 hA 12 8191 rfl (fun w => (q_assign rfl)) fun a hA => ?_
 refine a_end (by kernel_rfl) ?_ _
 refine hK8 _ _ ?_
 clear hK8
 replace hA := hA.s8 9 8 7 6 5 4 0 1
 refine wp_seq_k fun K9 hK9 => ?_
 refine wp_region_lit ?_
 refine mv hA fun a hA => ?_
 refine wpList_nil ?_
 refine hK9 _ _ ?_
 clear hK9
 replace hA := hA.s8 37 8 7 6 5 4 0 1
 refine cond_f hA rfl ?_
 refine wp_skip ?_
 refine hK7 _ _ ?_
 clear hK7
 replace hA := hA.s6 7 6 5 4 0 1
 refine wp_seq_k fun K10 hK10 => ?_
 refine wp_seq_k fun K11 hK11 => ?_
 refine any_go mixed (fun _ => true) hH ?_
 clear hH; intro w hH
 have hS := hH
 refine any_l 24 ?_
 refine p0 hA 0 1 rfl (fun w => (q_fld 2 Tryz.underlying45 rfl rfl ti3 rfl)) fun a hA => ?_
 refine r0 hA 1 3 rfl hS (fun w hH => (q_loadB hH 1 rfl (List.mem_singleton.2 rfl) Tryz.underlying3 rfl rfl rfl)) fun a hA => ?_
 refine p0 hA 2 7 rfl (fun w => (q_move rfl)) fun a hA => ?_
 refine p0 hA 3 15 rfl (fun w => (q_nilCheck rfl)) fun a hA => ?_
 refine p0 hA 4 31 rfl (fun w => (q_fld 0 Tryz.underlying64 rfl rfl ti59 rfl)) fun a hA => ?_
 refine r0 hA 5 63 rfl hS (fun w hH => (q_loadB hH 4 rfl (List.mem_singleton.2 rfl) Tryz.underlying59 rfl rfl rfl)) fun a hA => ?_
 replace hH := hH.pick [5, 0, 1, 2, 3, 4, 6] (Hs' := [_, _, _, _, _, _, _]) rfl
 refine a1 hA 6 127 rfl (lo_call fn28 rfl (next7_any _ _ _ _ hPl _ _ _ hshp (by first | exact Nat.zero_le _ | omega | decide) (by first | assumption | omega | decide) (HS.handed (Ns1 := [_]) hH))) ?_
 rintro _ w ⟨rfl, hC⟩
 replace hH := HS.call (Ns1 := [_]) hH hC
 clear hC
 replace hS := hH.pick [1, 2, 3, 4, 5, 0, 6] (Hs' := [_, _, _, _, _, _, _]) rfl
 refine ⟨fun _ _ => hS, ?_⟩
 intro a hA
 refine p0 hA 7 255 rfl (fun w => (q_lssI rfl rfl)) fun a hA => ?_
 replace hA := hA.decT (by omega)
 refine p0 hA 8 511 rfl (fun w => (q_move rfl)) fun a hA => ?_
 refine ps hA 9 1023 rfl rfl rfl fun a hA => ?_
 refine ps hA 10 2047 rfl rfl rfl fun a hA => ?_
 refine ps hA 11 4095 rfl rfl rfl fun a hA => ?_
 refine ps hA 12 8191 rfl rfl rfl fun a hA => ?_
 refine ps hA 13 16383 rfl rfl rfl fun a hA => ?_
 refine ps hA 14 32767 rfl rfl rfl fun a hA => ?_
 refine ps hA 16 98303 rfl rfl rfl fun a hA => ?_
 refine ps hA 17 229375 rfl rfl rfl fun a hA => ?_
 refine ps hA 18 491519 rfl rfl rfl fun a hA => ?_
 refine ps hA 19 1015807 rfl rfl rfl fun a hA => ?_
 refine ps hA 15 1048575 rfl rfl rfl fun a hA => ?_
 refine ps hA 20 2097151 rfl rfl rfl fun a hA => ?_
 refine ps hA 21 4194303 rfl rfl rfl fun a hA => ?_
 refine ps hA 22 8388607 rfl rfl rfl fun a hA => ?_
 refine p0 hA 23 16777215 rfl (fun w => (q_pick_t rfl rfl)) fun a hA => ?_
 refine a_end (by kernel_rfl) ?_ _
 refine hK11 _ _ ?_
 clear hK11
 replace hA := hA.s7 70 7 6 5 4 0 1
 refine cond_t hA rfl ?_
 refine wp_seq_k fun K12 hK12 => ?_
 refine wp_region_lit ?_
 refine asg hA fun a hA => ?_
 refine asg hA fun a hA => ?_
 refine wpList_nil ?_
 refine hK12 _ _ ?_
 clear hK12
 replace hA := hA.s6 5 4 7 6 0 1
 refine wp_ret ?_
 refine then_ret ?_
 refine post_ret hA (res_2 rfl hA rfl rfl) ?_
 replace hH := hH.pick [5, 0, 6, 1, 2, 3, 4] (Hs' := [_, _, _, _, _, _, _]) rfl
 replace hH := hH.pick [0, 1, 2] (Hs' := [_, _, _]) rfl
 exact ⟨_, rfl, rfl, hH⟩

set_option maxHeartbeats 1000000 in
theorem hear_high {w0 : World} {lv : Nat} (hg : Gl lv w0) (key : Bs) (hkey : key.length = 32) (s : Bs) (hsd : s.length = 32) (n h : Nat) (hn : R7 n h) (v_l : Value) (b_w b_k b_s b_m : Nat) (hgM : NG lv [b_w, b_k, b_m]) (hSd : RdD [b_w, b_k, b_m] w0 (.slice (some ⟨b_s, 0, none⟩) 1 1) [s]) (hLv : RdD [b_w, b_k, b_m] w0 v_l (leavesK s n (2 ^ h))) (x : Nat) (hx : x ≤ 2 ^ h) (m : List (Int × Value)) (u : Value) (l : Bs) (hu : By [b_w, b_k, b_m] w0 u l) (hl : l.length ≤ 1000000) (D : (Nat × Nat × Nat × Bs × Bs × Bs) × Nat) (hD : D = decO key l) (he : D.2 = 0) (hmg : mget m (D.1.2.2.1 : Int) = none) (hhi : x ≤ D.1.2.2.1 ∧ 2 ^ h ≤ D.1.2.2.1) (hH : HS [b_w, b_k, b_m] w0 w0 [[(b_w, Obj.cells (wkC b_k key b_m).toArray 64 (0, 0))], [(b_k, Obj.cells (keyC (.func (.func 48) #[] #[.pointer (some ⟨b_s, 0, none⟩)]) v_l (pubK s n h) n x).toArray 107 (0, 0))], [(b_m, mapO m)]]) :
    Calls Tryz.prog 12 #[(.pointer (some ⟨b_w, 0, none⟩)), u] w0 (Ret fun r w' => r = .tuple #[.slice none 0 0, I 70] ∧ HS [b_w, b_k, b_m] w0 w' [[(b_w, Obj.cells (wkC b_k key b_m).toArray 64 (0, 0))], [(b_k, Obj.cells (keyC (.func (.func 48) #[] #[.pointer (some ⟨b_s, 0, none⟩)]) v_l (pubK s n h) n x).toArray 107 (0, 0))], [(b_m, mapO m)]]) := by
 refine start (n := 120) (E := [(0, _), (1, _)]) Tryz.func12 rfl rfl rfl (args_look rfl) ?_
 intro a hA
 have hn5 := hn.1
 have hn1 := hn.1.1
 have hn2 := hn.1.2
 have hh6 : h ≤ 6 := by have := hn.2.2; omega
 have h64 := pow_le64 hh6
 have hp0 : 0 < 2 ^ h := Nat.pow_pos (by decide)
 have hPl := pubK_length s n h
 have hDn : D.1.2.2.2.2.2.length = 32 := by rw [hD]; exact decO_n key l
 have hDl : D.1.2.2.2.1.length ≤ l.length ∧ D.1.2.2.2.2.1.length ≤ l.length := by rw [hD]; exact decO_len key l
 have hshp : Shp v_l (2 ^ h) := by have := hLv.shp; rwa [leavesK_length] at this
 refine wp_seq_k fun K1 hK1 => ?_
 refine wp_region_lit ?_
 refine asg hA fun a hA => ?_
 refine asg hA fun a hA => ?_
 refine wpList_nil ?_
 refine hK1 _ _ ?_
 clear hK1
 refine wp_seq_k fun K2 hK2 => ?_
 refine wp_seq_k fun K3 hK3 => ?_
 refine wp_region_lit ?_
 refine mv hA fun a hA => ?_
 refine sq hA (q_ptrNil Tryz.underlying30 rfl rfl) rfl fun a hA => ?_
 refine wpList_nil ?_
 refine hK3 _ _ ?_
 clear hK3
 replace hA := hA.s5 14 5 4 0 1
 refine cond_f hA rfl ?_
 refine wp_skip ?_
 refine hK2 _ _ ?_
 clear hK2
 replace hA := hA.s4 5 4 0 1
 refine wp_seq_k fun K4 hK4 => ?_
 refine wp_region_lit ?_
 refine mv hA fun a hA => ?_
 refine sq hA (q_nilCheck rfl) rfl fun a hA => ?_
 refine sq hA (q_fld 1 Tryz.underlying64 rfl rfl ti25 rfl) rfl fun a hA => ?_
 refine sq hA (q_loadBA hH 0 rfl (List.mem_singleton.2 rfl) Tryz.underlying25 rfl ti25 rfl _ (wkC_from hkey) (by simp [hkey])) rfl fun a hA => ?_
 refine mv hA fun a hA => ?_
 refine sl hA (lo_call fn26 rfl (decw_g (hg.mono hH hgM) _ (by first | assumption | (rw [List.length_map]; assumption) | rfl | exact sha_length _ | (simp; done) | (simp [*]; done) | omega) _ _ (hH.rd hu) (by first | omega | (simp; done) | (simp; omega)) hD)) rfl ?_
 rintro _ w ⟨v_at21, v_bt21, N_at21, N_bt21, rfl, hO_at21, hO_bt21, hC⟩ a hA
 replace hH := HS.call0 hH hC
 clear hC
 refine mv hA fun a hA => ?_
 refine sq hA (q_extract rfl rfl) rfl fun a hA => ?_
 refine sq hA (q_extract rfl rfl) rfl fun a hA => ?_
 refine sl hA (lo_allocA hH ti45) rfl ?_
 clear hH; rintro _ w ⟨b_t6, rfl, hH⟩ a hA
 refine s0 hA (lo_storeAm hH ti45 rfl rfl (by first | rfl | exact ordC_length hDn) (by first | rfl | exact ordC_length hDn) (ordC_one (Own.one hO_at21) (Own.one hO_bt21))) ?_
 clear hH; rintro _ w hH
 refine asg hA fun a hA => ?_
 refine wpList_nil ?_
 refine hK4 _ _ ?_
 clear hK4
 replace hA := hA.s6 7 6 5 4 0 1
 refine wp_seq_k fun K5 hK5 => ?_
 refine wp_seq_k fun K6 hK6 => ?_
 refine wp_region_lit ?_
 refine mv hA fun a hA => ?_
 refine sq hA (q_neqI (n := 0) rfl rfl) rfl fun a hA => ?_
 refine wpList_nil ?_
 refine hK6 _ _ ?_
 clear hK6
 replace hA := hA.s7 25 7 6 5 4 0 1
 refine cond_d hA rfl (fun hnn => absurd hnn (by omega)) (fun _ => ?_)
 refine wp_skip ?_
 refine hK5 _ _ ?_
 clear hK5
 replace hA := hA.s6 7 6 5 4 0 1
 refine wp_seq_k fun K7 hK7 => ?_
 refine wp_seq_k fun K8 hK8 => ?_
 refine any_go mixed (fun j => !(Nat.beq j 11)) hH ?_
 clear hH; intro w hH
 have hS := hH
 refine any_l 13 ?_
 refine p0 hA 0 1 rfl (fun w => (q_move rfl)) fun a hA => ?_
 refine p0 hA 1 3 rfl (fun w => (q_nilCheck rfl)) fun a hA => ?_
 refine p0 hA 2 7 rfl (fun w => (q_fld 33 Tryz.underlying64 rfl rfl ti62 rfl)) fun a hA => ?_
 refine r0 hA 3 15 rfl hS (fun w hH => (q_loadB hH 3 rfl (List.mem_singleton.2 rfl) Tryz.underlying62 rfl rfl (wkC_33 hkey))) fun a hA => ?_
 refine p0 hA 4 31 rfl (fun w => (q_fld 2 Tryz.underlying45 rfl rfl ti3 rfl)) fun a hA => ?_
 refine r0 hA 5 63 rfl hS (fun w hH => (q_loadB hH 0 rfl (List.mem_singleton.2 rfl) Tryz.underlying3 rfl rfl rfl)) fun a hA => ?_
 refine r0 hA 6 127 rfl hS (fun w hH => (q_lookup hH 5 rfl Tryz.underlying62 Tryz.underlying3 ti76 rfl rfl)) fun a hA => ?_
 rw [hmg] at hA
 simp only [Option.getD_none, Option.isSome_none] at hA
 refine p0 hA 7 255 rfl (fun w => (q_move rfl)) fun a hA => ?_
 refine p0 hA 8 511 rfl (fun w => (q_extract rfl rfl)) fun a hA => ?_
 refine p0 hA 9 1023 rfl (fun w => (q_extract rfl rfl)) fun a hA => ?_
 refine a1 hA 10 2047 rfl (lo_allocA hH ti76) ?_
 clear hH; rintro _ w ⟨b_t8, rfl, hH⟩
 replace hS := hH.pick [1, 2, 3, 4, 5, 6] (Hs' := [_, _, _, _, _, _]) rfl
 refine ⟨fun _ _ => hS, ?_⟩
 intro a hA
 refine a0n hA 11 4095 rfl (lo_storeAm hH ti76 rfl rfl (rfl) (rfl) (ones_cons rfl (ones_cons rfl ones_nil))) ?_
 clear hH; rintro _ w hH
 refine p0 hA 12 8191 rfl (fun w => (q_assign rfl)) fun a hA => ?_
 refine a_end (by kernel_rfl) ?_ _
 refine hK8 _ _ ?_
 clear hK8
 replace hA := hA.s8 9 8 7 6 5 4 0 1
 refine wp_seq_k fun K9 hK9 => ?_
 refine wp_region_lit ?_
 refine mv hA fun a hA => ?_
 refine wpList_nil ?_
 refine hK9 _ _ ?_
 clear hK9
 replace hA := hA.s8 37 8 7 6 5 4 0 1
 refine cond_f hA rfl ?_
 refine wp_skip ?_
 refine hK7 _ _ ?_
 clear hK7
 replace hA := hA.s6 7 6 5 4 0 1
 refine wp_seq_k fun K10 hK10 => ?_
 refine wp_seq_k fun K11 hK11 => ?_
 refine any_go mixed (fun _ => true) hH ?_
 clear hH; intro w hH
 have hS := hH
 refine any_l 24 ?_
 refine p0 hA 0 1 rfl (fun w => (q_fld 2 Tryz.underlying45 rfl rfl ti3 rfl)) fun a hA => ?_
 refine r0 hA 1 3 rfl hS (fun w hH => (q_loadB hH 1 rfl (List.mem_singleton.2 rfl) Tryz.underlying3 rfl rfl rfl)) fun a hA => ?_
 refine p0 hA 2 7 rfl (fun w => (q_move rfl)) fun a hA => ?_
 refine p0 hA 3 15 rfl (fun w => (q_nilCheck rfl)) fun a hA => ?_
 refine p0 hA 4 31 rfl (fun w => (q_fld 0 Tryz.underlying64 rfl rfl ti59 rfl)) fun a hA => ?_
 refine r0 hA 5 63 rfl hS (fun w hH => (q_loadB hH 4 rfl (List.mem_singleton.2 rfl) Tryz.underlying59 rfl rfl rfl)) fun a hA => ?_
 replace hH := hH.pick [5, 0, 1, 2, 3, 4, 6] (Hs' := [_, _, _, _, _, _, _]) rfl
 refine a1 hA 6 127 rfl (lo_call fn28 rfl (next7_any _ _ _ _ hPl _ _ _ hshp (by first | exact Nat.zero_le _ | omega | decide) (by first | assumption | omega | decide) (HS.handed (Ns1 := [_]) hH))) ?_
 rintro _ w ⟨rfl, hC⟩
 replace hH := HS.call (Ns1 := [_]) hH hC
 clear hC
 replace hS := hH.pick [1, 2, 3, 4, 5, 0, 6] (Hs' := [_, _, _, _, _, _, _]) rfl
 refine ⟨fun _ _ => hS, ?_⟩
 intro a hA
 refine p0 hA 7 255 rfl (fun w => (q_lssI rfl rfl)) fun a hA => ?_
 replace hA := hA.decF (by omega)
 refine p0 hA 8 511 rfl (fun w => (q_move rfl)) fun a hA => ?_
 refine pg hA 9 1023 rfl rfl rfl (fun w => (q_fld 2 Tryz.underlying45 rfl rfl ti3 rfl)) fun a hA => ?_
 refine rg hA 10 2047 rfl rfl rfl hS (fun w hH => (q_loadB hH 1 rfl (List.mem_singleton.2 rfl) Tryz.underlying3 rfl rfl rfl)) fun a hA => ?_
 refine pg hA 11 4095 rfl rfl rfl (fun w => (q_move rfl)) fun a hA => ?_
 refine pg hA 12 8191 rfl rfl rfl (fun w => (q_nilCheck rfl)) fun a hA => ?_
 refine pg hA 13 16383 rfl rfl rfl (fun w => (q_fld 0 Tryz.underlying64 rfl rfl ti59 rfl)) fun a hA => ?_
 refine rg hA 14 32767 rfl rfl rfl hS (fun w hH => (q_loadB hH 4 rfl (List.mem_singleton.2 rfl) Tryz.underlying59 rfl rfl rfl)) fun a hA => ?_
 refine pg hA 16 98303 rfl rfl rfl (fun w => (q_move rfl)) fun a hA => ?_
 refine pg hA 17 229375 rfl rfl rfl (fun w => (q_nilCheck rfl)) fun a hA => ?_
 refine pg hA 18 491519 rfl rfl rfl (fun w => (q_fld 0 Tryz.underlying64 rfl rfl ti59 rfl)) fun a hA => ?_
 refine rg hA 19 1015807 rfl rfl rfl hS (fun w hH => (q_loadB hH 4 rfl (List.mem_singleton.2 rfl) Tryz.underlying59 rfl rfl rfl)) fun a hA => ?_
 refine g1 hA 15 1048575 rfl rfl rfl (lo_call fn28 rfl (next7_any _ _ _ _ hPl _ _ _ hshp (by first | exact Nat.zero_le _ | omega | decide) (by first | assumption | omega | decide) (HS.handed (Ns1 := [_]) hH))) ?_
 rintro _ w ⟨rfl, hC⟩
 replace hH := HS.call (Ns1 := [_]) hH hC
 clear hC
 replace hS := hH.pick [1, 2, 3, 4, 5, 0, 6] (Hs' := [_, _, _, _, _, _, _]) rfl
 refine ⟨fun _ _ => hS, ?_⟩
 intro a hA
 refine g1 hA 20 2097151 rfl rfl rfl (lo_call fn29 rfl (left7_any _ _ _ _ hPl _ _ _ hshp (by first | exact Nat.zero_le _ | omega | decide) (by first | assumption | omega | decide) (HS.handed (Ns1 := [_]) hH))) ?_
 rintro _ w ⟨rfl, hC⟩
 replace hH := HS.call (Ns1 := [_]) hH hC
 clear hC
 replace hS := hH.pick [1, 2, 3, 4, 5, 0, 6] (Hs' := [_, _, _, _, _, _, _]) rfl
 refine ⟨fun _ _ => hS, ?_⟩
 intro a hA
 refine pg hA 21 4194303 rfl rfl rfl (fun w => (q_addI rfl rfl (by omega))) fun a hA => ?_
 refine pg hA 22 8388607 rfl rfl rfl (fun w => (q_geqI rfl rfl)) fun a hA => ?_
 replace hA := hA.decT (by omega)
 refine p0 hA 23 16777215 rfl (fun w => (q_pick_f rfl rfl)) fun a hA => ?_
 refine a_end (by kernel_rfl) ?_ _
 refine hK11 _ _ ?_
 clear hK11
 replace hA := hA.s7 70 7 6 5 4 0 1
 refine cond_t hA rfl ?_
 refine wp_seq_k fun K12 hK12 => ?_
 refine wp_region_lit ?_
 refine asg hA fun a hA => ?_
 refine asg hA fun a hA => ?_
 refine wpList_nil ?_
 refine hK12 _ _ ?_
 clear hK12
 replace hA := hA.s6 5 4 7 6 0 1
 refine wp_ret ?_
 refine then_ret ?_
 refine post_ret hA (res_2 rfl hA rfl rfl) ?_
 replace hH := hH.pick [5, 0, 6, 1, 2, 3, 4] (Hs' := [_, _, _, _, _, _, _]) rfl
 replace hH := hH.pick [0, 1, 2] (Hs' := [_, _, _]) rfl
 exact ⟨_, rfl, rfl, hH⟩

theorem pubw_any {w0 : World} {lv : Nat} (hg : Gl lv w0) (key : Bs) (hkey : key.length = 32) (s : Bs) (hsd : s.length = 32) (n h : Nat) (hn : R7 n h) (v_l : Value) (b_w b_k b_s b_m : Nat) (hgM : NG lv [b_w, b_k, b_m]) (hSd : RdD [b_w, b_k, b_m] w0 (.slice (some ⟨b_s, 0, none⟩) 1 1) [s]) (hLv : RdD [b_w, b_k, b_m] w0 v_l (leavesK s n (2 ^ h))) (x : Nat) (hx : x ≤ 2 ^ h) (m : List (Int × Value)) (hH : HS [b_w, b_k, b_m] w0 w0 [[(b_w, Obj.cells (wkC b_k key b_m).toArray 64 (0, 0))], [(b_k, Obj.cells (keyC (.func (.func 48) #[] #[.pointer (some ⟨b_s, 0, none⟩)]) v_l (pubK s n h) n x).toArray 107 (0, 0))], [(b_m, mapO m)]]) :
    Calls Tryz.prog 9 #[(.pointer (some ⟨b_w, 0, none⟩))] w0 (Ret fun r w' => r = .agg ((pubK s n h).map B8).toArray ∧ HS [b_w, b_k, b_m] w0 w' [[(b_w, Obj.cells (wkC b_k key b_m).toArray 64 (0, 0))], [(b_k, Obj.cells (keyC (.func (.func 48) #[] #[.pointer (some ⟨b_s, 0, none⟩)]) v_l (pubK s n h) n x).toArray 107 (0, 0))], [(b_m, mapO m)]]) := by
 refine start (n := 11) (E := [(0, _)]) Tryz.func9 rfl rfl rfl (args_look rfl) ?_
 intro a hA
 have hn5 := hn.1
 have hn1 := hn.1.1
 have hn2 := hn.1.2
 have hh6 : h ≤ 6 := by have := hn.2.2; omega
 have h64 := pow_le64 hh6
 have hp0 : 0 < 2 ^ h := Nat.pow_pos (by decide)
 have hPl := pubK_length s n h
 have hshp : Shp v_l (2 ^ h) := by have := hLv.shp; rwa [leavesK_length] at this
 refine wp_seq_k fun K1 hK1 => ?_
 refine wp_region_lit ?_
 refine sl hA (lo_allocA hH ti25) rfl ?_
 clear hH; rintro _ w ⟨b_t2, rfl, hH⟩ a hA
 refine wpList_nil ?_
 refine hK1 _ _ ?_
 clear hK1
 refine wp_seq_k fun K2 hK2 => ?_
 refine wp_seq_k fun K3 hK3 => ?_
 refine wp_region_lit ?_
 refine mv hA fun a hA => ?_
 refine sq hA (q_ptrNil Tryz.underlying30 rfl rfl) rfl fun a hA => ?_
 refine wpList_nil ?_
 refine hK3 _ _ ?_
 clear hK3
 replace hA := hA.s3 4 2 0
 refine cond_f hA rfl ?_
 refine wp_skip ?_
 refine hK2 _ _ ?_
 clear hK2
 replace hA := hA.s2 2 0
 refine wp_seq_k fun K4 hK4 => ?_
 refine wp_region_lit ?_
 refine mv hA fun a hA => ?_
 refine sq hA (q_nilCheck rfl) rfl fun a hA => ?_
 refine sq hA (q_fld 0 Tryz.underlying64 rfl rfl ti59 rfl) rfl fun a hA => ?_
 refine sq hA (q_loadB hH 1 rfl (List.mem_singleton.2 rfl) Tryz.underlying59 rfl rfl rfl) rfl fun a hA => ?_
 replace hH := hH.pick [2, 0, 1, 3] (Hs' := [_, _, _, _]) rfl
 refine sl hA (lo_call fn22 rfl (public7_any _ _ _ _ hPl _ _ _ hshp (by first | exact Nat.zero_le _ | omega | decide) (by first | assumption | omega | decide) (HS.handed (Ns1 := [_]) hH))) rfl ?_
 rintro _ w ⟨rfl, hC⟩ a hA
 replace hH := HS.call (Ns1 := [_]) hH hC
 clear hC
 replace hH := hH.pick [1, 0, 2, 3] (Hs' := [_, _, _, _]) rfl
 refine s0 hA (lo_storeAm hH ti25 rfl rfl (by first | omega | (simp; done) | (simp; omega) | (rw [List.length_map]; assumption) | assumption | rfl | (simp [*]; done) | (simp [*]; omega)) (by first | omega | (simp; done) | (simp; omega) | (rw [List.length_map]; assumption) | assumption | rfl | (simp [*]; done) | (simp [*]; omega)) (one_B8 _)) ?_
 clear hH; rintro _ w hH
 refine wpList_nil ?_
 refine hK4 _ _ ?_
 clear hK4
 replace hA := hA.s1 2
 refine wp_ret ?_
 refine post_ret hA (res_c rfl hA rfl (resW hH 0 rfl Tryz.underlying25 rfl ti25 (by first | assumption | (rw [List.length_map]; assumption) | rfl | exact sha_length _ | (simp; done) | (simp [*]; done) | omega))) ?_
 replace hH := hH.pick [2, 1, 3, 0] (Hs' := [_, _, _, _]) rfl
 replace hH := hH.pick [0, 1, 2] (Hs' := [_, _, _]) rfl
 exact ⟨_, rfl, rfl, hH⟩

theorem great22_any {w0 : World} (jj aa ii : Int) (tv pv : Value) (T Pl : Bs) (htv : By [] w0 tv T) (hpv : By [] w0 pv Pl) (hlT : T.length ≤ 1048576) (hlP : Pl.length ≤ 1048576) (nn : Bs) (hnn : nn.length = 32) :
    Calls Tryz.prog 15 #[(.agg (ordC jj aa ii tv pv nn).toArray)] w0 (Ret fun r w' => r = .bool (decide (300 < T.length ∨ 300 < Pl.length)) ∧ HS [] w0 w' []) := by
 have hH := HS.start w0
 refine start (n := 13) (E := [(0, _)]) Tryz.func15 rfl rfl rfl (args_look rfl) ?_
 intro a hA
 refine wp_seq_k fun K1 hK1 => ?_
 refine wp_region_lit ?_
 refine sl hA (lo_boxA hH rfl) rfl ?_
 clear hH; rintro _ w ⟨b_t1, rfl, hH⟩ a hA
 refine asg hA fun a hA => ?_
 refine wpList_nil ?_
 refine hK1 _ _ ?_
 clear hK1
 replace hA := hA.s2 2 1
 refine wp_seq_k fun K2 hK2 => ?_
 refine wp_region_lit ?_
 refine sq hA (q_fld 3 Tryz.underlying45 rfl rfl ti41 rfl) rfl fun a hA => ?_
 refine sq hA (q_loadB hH 0 rfl (List.mem_singleton.2 rfl) Tryz.underlying41 rfl rfl rfl) rfl fun a hA => ?_
 refine sq hA (q_len Tryz.underlying41 rfl (Rd.shp htv)) rfl fun a hA => ?_
 refine sq hA (q_gtrI (n := 300) rfl rfl) rfl fun a hA => ?_
 refine hA.spl (fun hs6 hA => ?_) (fun hs6 hA => ?_)
 ·skip
  refine mv hA fun a hA => ?_
  refine gs hA rfl rfl rfl rfl fun a hA => ?_
  refine gs hA rfl rfl rfl rfl fun a hA => ?_
  refine gs hA rfl rfl rfl rfl fun a hA => ?_
  refine gs hA rfl rfl rfl rfl fun a hA => ?_
  refine sq hA (q_pick_t rfl rfl) rfl fun a hA => ?_
  refine asg hA fun a hA => ?_
  refine wpList_nil ?_
  refine hK2 _ _ ?_
  clear hK2
  replace hA := hA.s1 2
  refine wp_ret ?_
  refine post_ret hA (res_1 rfl hA rfl) ?_
  replace hH := hH.pick [] (Hs' := []) rfl
  exact ⟨_, rfl, by congr 1; symm; first | exact decide_eq_false (by omega) | exact decide_eq_true (by omega) | exact decide_eq_decide.2 (by omega), hH⟩
 ·skip
  refine mv hA fun a hA => ?_
  refine gq hA rfl rfl (q_fld 4 Tryz.underlying45 rfl rfl ti41 rfl) rfl fun a hA => ?_
  refine gq hA rfl rfl (q_loadB hH 0 rfl (List.mem_singleton.2 rfl) Tryz.underlying41 rfl rfl rfl) rfl fun a hA => ?_
  refine gq hA rfl rfl (q_len Tryz.underlying41 rfl (Rd.shp hpv)) rfl fun a hA => ?_
  refine gq hA rfl rfl (q_gtrI (n := 300) rfl rfl) rfl fun a hA => ?_
  refine sq hA (q_pick_f rfl rfl) rfl fun a hA => ?_
  refine asg hA fun a hA => ?_
  refine wpList_nil ?_
  refine hK2 _ _ ?_
  clear hK2
  replace hA := hA.s1 2
  refine wp_ret ?_
  refine post_ret hA (res_1 rfl hA rfl) ?_
  replace hH := hH.pick [] (Hs' := []) rfl
  exact ⟨_, rfl, by congr 1; symm; first | exact decide_eq_false (by omega) | exact decide_eq_true (by omega) | exact decide_eq_decide.2 (by omega), hH⟩


theorem refin22_any {w0 : World} (n : Int) :
    Calls Tryz.prog 98 #[I n] w0 (Ret fun r w' => r = .bool (decide (0 ≤ n ∧ n ≤ 1099511627776)) ∧ HS [] w0 w' []) := by
 have hH := HS.start w0
 refine start (n := 9) (E := [(0, _)]) Tryz.func98 rfl rfl rfl (args_look rfl) ?_
 intro a hA
 refine wp_seq_k fun K1 hK1 => ?_
 refine wp_region_lit ?_
 refine asg hA fun a hA => ?_
 refine wpList_nil ?_
 refine hK1 _ _ ?_
 clear hK1
 refine wp_seq_k fun K2 hK2 => ?_
 refine wp_region_lit ?_
 refine mv hA fun a hA => ?_
 refine sq hA (q_geqI (n := 0) rfl rfl) rfl fun a hA => ?_
 refine hA.spl (fun hs4 hA => ?_) (fun hs4 hA => ?_)
 ·skip
  refine mv hA fun a hA => ?_
  refine gq hA rfl rfl (q_move rfl) rfl fun a hA => ?_
  refine gq hA rfl rfl (q_leqI (n := 1099511627776) rfl rfl) rfl fun a hA => ?_
  refine sq hA (q_pick_t rfl rfl) rfl fun a hA => ?_
  refine asg hA fun a hA => ?_
  refine wpList_nil ?_
  refine hK2 _ _ ?_
  clear hK2
  replace hA := hA.s1 2
  refine wp_ret ?_
  refine post_ret hA (res_1 rfl hA rfl) ?_
  exact ⟨_, rfl, by congr 1; symm; first | exact decide_eq_false (by omega) | exact decide_eq_true (by omega) | exact decide_eq_decide.2 (by omega), hH⟩
 ·skip
  refine mv hA fun a hA => ?_
  refine gs hA rfl rfl rfl rfl fun a hA => ?_
  refine gs hA rfl rfl rfl rfl fun a hA => ?_
  refine sq hA (q_pick_f rfl rfl) rfl fun a hA => ?_
  refine asg hA fun a hA => ?_
  refine wpList_nil ?_
  refine hK2 _ _ ?_
  clear hK2
  replace hA := hA.s1 2
  refine wp_ret ?_
  refine post_ret hA (res_1 rfl hA rfl) ?_
  exact ⟨_, rfl, by congr 1; symm; first | exact decide_eq_false (by omega) | exact decide_eq_true (by omega) | exact decide_eq_decide.2 (by omega), hH⟩

theorem refmay22_any {w0 : World} (jj aa ii : Int) (tv pv : Value) (T Pl : Bs) (htv : By [] w0 tv T) (hpv : By [] w0 pv Pl) (hlT : T.length ≤ 1048576) (hlP : Pl.length ≤ 1048576) (nn : Bs) (hnn : nn.length = 32) :
    Calls Tryz.prog 58 #[(.agg (ordC jj aa ii tv pv nn).toArray)] w0 (Ret fun r w' => r = .bool (decide (MayO jj aa ii T Pl)) ∧ HS [] w0 w' []) := by
 have hH := HS.start w0
 refine start (n := 28) (E := [(0, _)]) Tryz.func58 rfl rfl rfl (args_look rfl) ?_
 intro a hA
 refine wp_seq_k fun K1 hK1 => ?_
 refine wp_region_lit ?_
 refine sl hA (lo_boxA hH rfl) rfl ?_
 clear hH; rintro _ w ⟨b_t1, rfl, hH⟩ a hA
 refine asg hA fun a hA => ?_
 refine wpList_nil ?_
 refine hK1 _ _ ?_
 clear hK1
 replace hA := hA.s2 2 1
 refine wp_seq_k fun K2 hK2 => ?_
 refine wp_region_lit ?_
 refine sq hA (q_fld 0 Tryz.underlying45 rfl rfl ti3 rfl) rfl fun a hA => ?_
 refine sq hA (q_loadB hH 0 rfl (List.mem_singleton.2 rfl) Tryz.underlying3 rfl rfl rfl) rfl fun a hA => ?_
 refine sl hA (lo_call fn98 rfl (refin22_any _)) rfl ?_
 rintro _ w ⟨rfl, hC⟩ a hA
 replace hH := HS.call0 hH hC
 clear hC
 refine hA.spl (fun hs5 hA => ?_) (fun hs5 hA => ?_)
 ·skip
  refine mv hA fun a hA => ?_
  refine gq hA rfl rfl (q_fld 1 Tryz.underlying45 rfl rfl ti3 rfl) rfl fun a hA => ?_
  refine gq hA rfl rfl (q_loadB hH 0 rfl (List.mem_singleton.2 rfl) Tryz.underlying3 rfl rfl rfl) rfl fun a hA => ?_
  refine gl hA rfl rfl (lo_call fn98 rfl (refin22_any _)) rfl ?_
  rintro _ w ⟨rfl, hC⟩ a hA
  replace hH := HS.call0 hH hC
  clear hC
  refine sq hA (q_pick_t rfl rfl) rfl fun a hA => ?_
  refine hA.spl (fun hs10 hA => ?_) (fun hs10 hA => ?_)
  ·skip
   refine mv hA fun a hA => ?_
   refine gq hA rfl rfl (q_fld 2 Tryz.underlying45 rfl rfl ti3 rfl) rfl fun a hA => ?_
   refine gq hA rfl rfl (q_loadB hH 0 rfl (List.mem_singleton.2 rfl) Tryz.underlying3 rfl rfl rfl) rfl fun a hA => ?_
   refine gl hA rfl rfl (lo_call fn98 rfl (refin22_any _)) rfl ?_
   rintro _ w ⟨rfl, hC⟩ a hA
   replace hH := HS.call0 hH hC
   clear hC
   refine sq hA (q_pick_t rfl rfl) rfl fun a hA => ?_
   refine hA.spl (fun hs15 hA => ?_) (fun hs15 hA => ?_)
   ·skip
    refine mv hA fun a hA => ?_
    refine gq hA rfl rfl (q_fld 3 Tryz.underlying45 rfl rfl ti41 rfl) rfl fun a hA => ?_
    refine gq hA rfl rfl (q_loadB hH 0 rfl (List.mem_singleton.2 rfl) Tryz.underlying41 rfl rfl rfl) rfl fun a hA => ?_
    refine gq hA rfl rfl (q_len Tryz.underlying41 rfl (Rd.shp htv)) rfl fun a hA => ?_
    refine gq hA rfl rfl (q_leqI (n := 100) rfl rfl) rfl fun a hA => ?_
    refine sq hA (q_pick_t rfl rfl) rfl fun a hA => ?_
    refine hA.spl (fun hs21 hA => ?_) (fun hs21 hA => ?_)
    ·skip
     refine mv hA fun a hA => ?_
     refine gq hA rfl rfl (q_fld 4 Tryz.underlying45 rfl rfl ti41 rfl) rfl fun a hA => ?_
     refine gq hA rfl rfl (q_loadB hH 0 rfl (List.mem_singleton.2 rfl) Tryz.underlying41 rfl rfl rfl) rfl fun a hA => ?_
     refine gq hA rfl rfl (q_len Tryz.underlying41 rfl (Rd.shp hpv)) rfl fun a hA => ?_
     refine gq hA rfl rfl (q_leqI (n := 64) rfl rfl) rfl fun a hA => ?_
     refine sq hA (q_pick_t rfl rfl) rfl fun a hA => ?_
     refine asg hA fun a hA => ?_
     refine wpList_nil ?_
     refine hK2 _ _ ?_
     clear hK2
     replace hA := hA.s1 2
     refine wp_ret ?_
     refine post_ret hA (res_1 rfl hA rfl) ?_
     replace hH := hH.pick [] (Hs' := []) rfl
     exact ⟨_, rfl, by congr 1; symm; first | exact decide_eq_false (by unfold MayO; omega) | exact decide_eq_true (by unfold MayO; omega) | exact decide_eq_decide.2 (by unfold MayO; omega), hH⟩
    ·skip
     refine mv hA fun a hA => ?_
     refine gs hA rfl rfl rfl rfl fun a hA => ?_
     refine gs hA rfl rfl rfl rfl fun a hA => ?_
     refine gs hA rfl rfl rfl rfl fun a hA => ?_
     refine gs hA rfl rfl rfl rfl fun a hA => ?_
     refine sq hA (q_pick_f rfl rfl) rfl fun a hA => ?_
     refine asg hA fun a hA => ?_
     refine wpList_nil ?_
     refine hK2 _ _ ?_
     clear hK2
     replace hA := hA.s1 2
     refine wp_ret ?_
     refine post_ret hA (res_1 rfl hA rfl) ?_
     replace hH := hH.pick [] (Hs' := []) rfl
     exact ⟨_, rfl, by congr 1; symm; first | exact decide_eq_false (by unfold MayO; omega) | exact decide_eq_true (by unfold MayO; omega) | exact decide_eq_decide.2 (by unfold MayO; omega), hH⟩
   ·skip
    refine mv hA fun a hA => ?_
    refine gs hA rfl rfl rfl rfl fun a hA => ?_
    refine gs hA rfl rfl rfl rfl fun a hA => ?_
    refine gs hA rfl rfl rfl rfl fun a hA => ?_
    refine gs hA rfl rfl rfl rfl fun a hA => ?_
    refine sq hA (q_pick_f rfl rfl) rfl fun a hA => ?_
    refine mv hA fun a hA => ?_
    refine gs hA rfl rfl rfl rfl fun a hA => ?_
    refine gs hA rfl rfl rfl rfl fun a hA => ?_
    refine gs hA rfl rfl rfl rfl fun a hA => ?_
    refine gs hA rfl rfl rfl rfl fun a hA => ?_
    refine sq hA (q_pick_f rfl rfl) rfl fun a hA => ?_
    refine asg hA fun a hA => ?_
    refine wpList_nil ?_
    refine hK2 _ _ ?_
    clear hK2
    replace hA := hA.s1 2
    refine wp_ret ?_
    refine post_ret hA (res_1 rfl hA rfl) ?_
    replace hH := hH.pick [] (Hs' := []) rfl
    exact ⟨_, rfl, by congr 1; symm; first | exact decide_eq_false (by unfold MayO; omega) | exact decide_eq_true (by unfold MayO; omega) | exact decide_eq_decide.2 (by unfold MayO; omega), hH⟩
  ·skip
   refine mv hA fun a hA => ?_
   refine gs hA rfl rfl rfl rfl fun a hA => ?_
   refine gs hA rfl rfl rfl rfl fun a hA => ?_
   refine gs hA rfl rfl rfl rfl fun a hA => ?_
   refine sq hA (q_pick_f rfl rfl) rfl fun a hA => ?_
   refine mv hA fun a hA => ?_
   refine gs hA rfl rfl rfl rfl fun a hA => ?_
   refine gs hA rfl rfl rfl rfl fun a hA => ?_
   refine gs hA rfl rfl rfl rfl fun a hA => ?_
   refine gs hA rfl rfl rfl rfl fun a hA => ?_
   refine sq hA (q_pick_f rfl rfl) rfl fun a hA => ?_
   refine mv hA fun a hA => ?_
   refine gs hA rfl rfl rfl rfl fun a hA => ?_
   refine gs hA rfl rfl rfl rfl fun a hA => ?_
   refine gs hA rfl rfl rfl rfl fun a hA => ?_
   refine gs hA rfl rfl rfl rfl fun a hA => ?_
   refine sq hA (q_pick_f rfl rfl) rfl fun a hA => ?_
   refine asg hA fun a hA => ?_
   refine wpList_nil ?_
   refine hK2 _ _ ?_
   clear hK2
   replace hA := hA.s1 2
   refine wp_ret ?_
   refine post_ret hA (res_1 rfl hA rfl) ?_
   replace hH := hH.pick [] (Hs' := []) rfl
   exact ⟨_, rfl, by congr 1; symm; first | exact decide_eq_false (by unfold MayO; omega) | exact decide_eq_true (by unfold MayO; omega) | exact decide_eq_decide.2 (by unfold MayO; omega), hH⟩
 ·skip
  refine mv hA fun a hA => ?_
  refine gs hA rfl rfl rfl rfl fun a hA => ?_
  refine gs hA rfl rfl rfl rfl fun a hA => ?_
  refine gs hA rfl rfl rfl rfl fun a hA => ?_
  refine sq hA (q_pick_f rfl rfl) rfl fun a hA => ?_
  refine mv hA fun a hA => ?_
  refine gs hA rfl rfl rfl rfl fun a hA => ?_
  refine gs hA rfl rfl rfl rfl fun a hA => ?_
  refine gs hA rfl rfl rfl rfl fun a hA => ?_
  refine sq hA (q_pick_f rfl rfl) rfl fun a hA => ?_
  refine mv hA fun a hA => ?_
  refine gs hA rfl rfl rfl rfl fun a hA => ?_
  refine gs hA rfl rfl rfl rfl fun a hA => ?_
  refine gs hA rfl rfl rfl rfl fun a hA => ?_
  refine gs hA rfl rfl rfl rfl fun a hA => ?_
  refine sq hA (q_pick_f rfl rfl) rfl fun a hA => ?_
  refine mv hA fun a hA => ?_
  refine gs hA rfl rfl rfl rfl fun a hA => ?_
  refine gs hA rfl rfl rfl rfl fun a hA => ?_
  refine gs hA rfl rfl rfl rfl fun a hA => ?_
  refine gs hA rfl rfl rfl rfl fun a hA => ?_
  refine sq hA (q_pick_f rfl rfl) rfl fun a hA => ?_
  refine asg hA fun a hA => ?_
  refine wpList_nil ?_
  refine hK2 _ _ ?_
  clear hK2
  replace hA := hA.s1 2
  refine wp_ret ?_
  refine post_ret hA (res_1 rfl hA rfl) ?_
  replace hH := hH.pick [] (Hs' := []) rfl
  exact ⟨_, rfl, by congr 1; symm; first | exact decide_eq_false (by unfold MayO; omega) | exact decide_eq_true (by unfold MayO; omega) | exact decide_eq_decide.2 (by unfold MayO; omega), hH⟩

theorem refbody22_any {w0 : World} (jj aa ii : Int) (tv pv : Value) (T Pl : Bs) (htv : By [] w0 tv T) (hpv : By [] w0 pv Pl) (hlT : T.length ≤ 1048576) (hlP : Pl.length ≤ 1048576) (nn : Bs) (hnn : nn.length = 32) (hM : MayO jj aa ii T Pl) :
    Calls Tryz.prog 59 #[(.agg (ordC jj aa ii tv pv nn).toArray)] w0 (Ret fun r w' => ∃ v' N, v' = r ∧ Ow B8 5 v' (bodyO jj.toNat aa.toNat ii.toNat T Pl nn) N ∧ HS [] w0 w' [N]) := by
 have hH := HS.start w0
 refine start (n := 35) (E := [(0, _)]) Tryz.func59 rfl rfl rfl (args_look rfl) ?_
 intro a hA
 obtain ⟨⟨y1, y2⟩, ⟨y3, y4⟩, ⟨y5, y6⟩, y7, y8⟩ := hM
 have w1 := wd_le (n := jj.toNat) (by omega)
 have w2 := wd_le (n := aa.toNat) (by omega)
 have w3 := wd_le (n := ii.toNat) (by omega)
 have w4 := wtext_len9 hlT
 have w5 := wtext_len9 hlP
 have w6 := wnum_length jj.toNat
 have w7 := wnum_length aa.toNat
 have w8 := wnum_length ii.toNat
 refine wp_seq_k fun K1 hK1 => ?_
 refine wp_region_lit ?_
 refine sl hA (lo_boxA hH rfl) rfl ?_
 clear hH; rintro _ w ⟨b_t1, rfl, hH⟩ a hA
 refine asg hA fun a hA => ?_
 refine wpList_nil ?_
 refine hK1 _ _ ?_
 clear hK1
 replace hA := hA.s2 2 1
 refine wp_seq_k fun K2 hK2 => ?_
 refine wp_region_lit ?_
 refine sq hA (q_fld 0 Tryz.underlying45 rfl rfl ti3 rfl) rfl fun a hA => ?_
 refine sq hA (q_loadB hH 0 rfl (List.mem_singleton.2 rfl) Tryz.underlying3 rfl rfl rfl) rfl fun a hA => ?_
 refine sq hA (q_cvI64 Tryz.underlying3 Tryz.underlying97 rfl) rfl fun a hA => ?_
 refine sl hA (lo_call fn80 rfl (refwnum_any _)) rfl ?_
 rintro _ w ⟨v_t7, N_t7, rfl, hO_t7, hC⟩ a hA
 replace hH := HS.call0 hH hC
 clear hC
 rw [toNat_ofIntN (by omega)] at hO_t7
 refine asg hA fun a hA => ?_
 refine wpList_nil ?_
 refine hK2 _ _ ?_
 clear hK2
 replace hA := hA.s3 3 2 1
 refine wp_seq_k fun K3 hK3 => ?_
 refine wp_region_lit ?_
 refine mv hA fun a hA => ?_
 refine sq hA (q_fld 1 Tryz.underlying45 rfl rfl ti3 rfl) rfl fun a hA => ?_
 refine sq hA (q_loadB hH 1 rfl (List.mem_singleton.2 rfl) Tryz.underlying3 rfl rfl rfl) rfl fun a hA => ?_
 refine sq hA (q_cvI64 Tryz.underlying3 Tryz.underlying97 rfl) rfl fun a hA => ?_
 refine sl hA (lo_call fn80 rfl (refwnum_any _)) rfl ?_
 rintro _ w ⟨v_t12, N_t12, rfl, hO_t12, hC⟩ a hA
 replace hH := HS.call0 hH hC
 clear hC
 rw [toNat_ofIntN (by omega)] at hO_t12
 replace hH := hH.pick [1, 0, 2] (Hs' := [_, _, _]) rfl
 refine sl hA (lo_appm hH Tryz.underlying41 Tryz.underlying41 (.inl rfl) ti5 rfl rfl rfl hO_t7 (Rd.src (Own.rd0 hO_t12 hH 1 rfl)) (one_B8 _) (by first | omega | (simp only [List.length_append, List.length_nil, hnn, macV_length]; omega)) (by first | omega | (simp only [List.length_append, List.length_nil, hnn, macV_length]; omega))) rfl ?_
 clear hH; rintro v_t13 w ⟨N_t13, hO_t13, hH⟩ a hA
 refine asg hA fun a hA => ?_
 refine wpList_nil ?_
 refine hK3 _ _ ?_
 clear hK3
 replace hA := hA.s3 3 2 1
 refine wp_seq_k fun K4 hK4 => ?_
 refine wp_region_lit ?_
 refine mv hA fun a hA => ?_
 refine sq hA (q_fld 2 Tryz.underlying45 rfl rfl ti3 rfl) rfl fun a hA => ?_
 refine sq hA (q_loadB hH 2 rfl (List.mem_singleton.2 rfl) Tryz.underlying3 rfl rfl rfl) rfl fun a hA => ?_
 refine sq hA (q_cvI64 Tryz.underlying3 Tryz.underlying97 rfl) rfl fun a hA => ?_
 refine sl hA (lo_call fn80 rfl (refwnum_any _)) rfl ?_
 rintro _ w ⟨v_t18, N_t18, rfl, hO_t18, hC⟩ a hA
 replace hH := HS.call0 hH hC
 clear hC
 rw [toNat_ofIntN (by omega)] at hO_t18
 replace hH := hH.pick [1, 0, 2, 3] (Hs' := [_, _, _, _]) rfl
 refine sl hA (lo_appm hH Tryz.underlying41 Tryz.underlying41 (.inl rfl) ti5 rfl rfl rfl hO_t13 (Rd.src (Own.rd0 hO_t18 hH 1 rfl)) (one_B8 _) (by first | omega | (simp only [List.length_append, List.length_nil, hnn, macV_length]; omega)) (by first | omega | (simp only [List.length_append, List.length_nil, hnn, macV_length]; omega))) rfl ?_
 clear hH; rintro v_t19 w ⟨N_t19, hO_t19, hH⟩ a hA
 refine asg hA fun a hA => ?_
 refine wpList_nil ?_
 refine hK4 _ _ ?_
 clear hK4
 replace hA := hA.s3 3 2 1
 refine wp_seq_k fun K5 hK5 => ?_
 refine wp_region_lit ?_
 refine mv hA fun a hA => ?_
 refine sq hA (q_fld 3 Tryz.underlying45 rfl rfl ti41 rfl) rfl fun a hA => ?_
 refine sq hA (q_loadB hH 3 rfl (List.mem_singleton.2 rfl) Tryz.underlying41 rfl rfl rfl) rfl fun a hA => ?_
 refine sl hA (lo_call fn81 rfl (refwtext_any _ _ (hH.rd htv) (by first | omega | (simp; done) | (simp; omega)))) rfl ?_
 rintro _ w ⟨v_t23, N_t23, rfl, hO_t23, hC⟩ a hA
 replace hH := HS.call0 hH hC
 clear hC
 replace hH := hH.pick [1, 0, 2, 3, 4] (Hs' := [_, _, _, _, _]) rfl
 refine sl hA (lo_appm hH Tryz.underlying41 Tryz.underlying41 (.inl rfl) ti5 rfl rfl rfl hO_t19 (Rd.src (Own.rd0 hO_t23 hH 1 rfl)) (one_B8 _) (by first | omega | (simp only [List.length_append, List.length_nil, hnn, macV_length]; omega)) (by first | omega | (simp only [List.length_append, List.length_nil, hnn, macV_length]; omega))) rfl ?_
 clear hH; rintro v_t24 w ⟨N_t24, hO_t24, hH⟩ a hA
 refine asg hA fun a hA => ?_
 refine wpList_nil ?_
 refine hK5 _ _ ?_
 clear hK5
 replace hA := hA.s3 3 2 1
 refine wp_seq_k fun K6 hK6 => ?_
 refine wp_region_lit ?_
 refine mv hA fun a hA => ?_
 refine sq hA (q_fld 4 Tryz.underlying45 rfl rfl ti41 rfl) rfl fun a hA => ?_
 refine sq hA (q_loadB hH 4 rfl (List.mem_singleton.2 rfl) Tryz.underlying41 rfl rfl rfl) rfl fun a hA => ?_
 refine sl hA (lo_call fn81 rfl (refwtext_any _ _ (hH.rd hpv) (by first | omega | (simp; done) | (simp; omega)))) rfl ?_
 rintro _ w ⟨v_t28, N_t28, rfl, hO_t28, hC⟩ a hA
 replace hH := HS.call0 hH hC
 clear hC
 replace hH := hH.pick [1, 0, 2, 3, 4, 5] (Hs' := [_, _, _, _, _, _]) rfl
 refine sl hA (lo_appm hH Tryz.underlying41 Tryz.underlying41 (.inl rfl) ti5 rfl rfl rfl hO_t24 (Rd.src (Own.rd0 hO_t28 hH 1 rfl)) (one_B8 _) (by first | omega | (simp only [List.length_append, List.length_nil, hnn, macV_length]; omega)) (by first | omega | (simp only [List.length_append, List.length_nil, hnn, macV_length]; omega))) rfl ?_
 clear hH; rintro v_t29 w ⟨N_t29, hO_t29, hH⟩ a hA
 refine asg hA fun a hA => ?_
 refine wpList_nil ?_
 refine hK6 _ _ ?_
 clear hK6
 replace hA := hA.s3 3 2 1
 refine wp_seq_k fun K7 hK7 => ?_
 refine wp_region_lit ?_
 refine mv hA fun a hA => ?_
 refine sq hA (q_fld 5 Tryz.underlying45 rfl rfl ti25 rfl) rfl fun a hA => ?_
 refine sq hA (q_loadBA hH 5 rfl (List.mem_singleton.2 rfl) Tryz.underlying25 rfl ti25 rfl _ (ordC_n hnn) (by simp [hnn])) rfl fun a hA => ?_
 refine sl hA (lo_call fn60 rfl (refdigest_any _ (by first | assumption | (rw [List.length_map]; assumption) | rfl | exact sha_length _ | (simp; done) | (simp [*]; done) | omega))) rfl ?_
 rintro _ w ⟨v_t33, N_t33, rfl, hO_t33, hC⟩ a hA
 replace hH := HS.call0 hH hC
 clear hC
 replace hH := hH.pick [1, 0, 2, 3, 4, 5, 6] (Hs' := [_, _, _, _, _, _, _]) rfl
 refine sl hA (lo_appm hH Tryz.underlying41 Tryz.underlying41 (.inl rfl) ti5 rfl rfl rfl hO_t29 (Rd.src (Own.rd0 hO_t33 hH 1 rfl)) (one_B8 _) (by first | omega | (simp only [List.length_append, List.length_nil, hnn, macV_length]; omega)) (by first | omega | (simp only [List.length_append, List.length_nil, hnn, macV_length]; omega))) rfl ?_
 clear hH; rintro v_t34 w ⟨N_t34, hO_t34, hH⟩ a hA
 refine asg hA fun a hA => ?_
 refine wpList_nil ?_
 refine hK7 _ _ ?_
 clear hK7
 replace hA := hA.s1 2
 refine wp_ret ?_
 refine post_ret hA (res_1 rfl hA rfl) ?_
 replace hH := hH.pick [0] (Hs' := [_]) rfl
 exact ⟨_, rfl, v_t34, N_t34, rfl, hO_t34, hH⟩

theorem refencw_any {w0 : World} {lv : Nat} (hg : Gl (lv + 2) w0) (key : Bs) (hkey : key.length = 32) (jj aa ii : Int) (tv pv : Value) (T Pl : Bs) (htv : By [] w0 tv T) (hpv : By [] w0 pv Pl) (hlT : T.length ≤ 1048576) (hlP : Pl.length ≤ 1048576) (nn : Bs) (hnn : nn.length = 32) :
    Calls Tryz.prog 25 #[(.agg ((key).map B8).toArray), (.agg (ordC jj aa ii tv pv nn).toArray)] w0 (Ret fun r w' => ∃ v' N, r = .tuple #[v', I (encO key jj aa ii T Pl nn).2] ∧ Ow B8 5 v' (encO key jj aa ii T Pl nn).1 N ∧ HS [] w0 w' [N]) := by
 have hH := HS.start w0
 refine start (n := 21) (E := [(0, _), (1, _)]) Tryz.func25 rfl rfl rfl (args_look rfl) ?_
 intro a hA
 refine wp_seq_k fun K1 hK1 => ?_
 refine wp_region_lit ?_
 refine sl hA (lo_boxA hH rfl) rfl ?_
 clear hH; rintro _ w ⟨b_t2, rfl, hH⟩ a hA
 refine sl hA (lo_boxA hH rfl) rfl ?_
 clear hH; rintro _ w ⟨b_t3, rfl, hH⟩ a hA
 refine asg hA fun a hA => ?_
 refine asg hA fun a hA => ?_
 refine wpList_nil ?_
 refine hK1 _ _ ?_
 clear hK1
 replace hA := hA.s4 5 4 3 2
 refine wp_seq_k fun K2 hK2 => ?_
 refine wp_seq_k fun K3 hK3 => ?_
 refine wp_region_lit ?_
 refine sq hA (q_loadW hH 0 rfl Tryz.underlying45 rfl ti45 rfl (by first | rfl | exact ordC_length hnn | (rw [ordC_length hnn]; decide))) rfl fun a hA => ?_
 refine sl hA (lo_call fn58 rfl (refmay22_any _ _ _ _ _ _ _ (hH.rd htv) (hH.rd hpv) (by first | omega | (simp; done) | (simp; omega)) (by first | omega | (simp; done) | (simp; omega)) _ (by first | assumption | (rw [List.length_map]; assumption) | rfl | exact sha_length _ | (simp; done) | (simp [*]; done) | omega))) rfl ?_
 rintro _ w ⟨rfl, hC⟩ a hA
 replace hH := HS.call0 hH hC
 clear hC
 refine hA.spl (fun hs9 hA => ?_) (fun hs9 hA => ?_)
 ·skip
  have hM : MayO jj aa ii T Pl := by assumption
  have hbl := bodyO_len (j := jj.toNat) (a := aa.toNat) (i := ii.toNat) (T := T) (P := Pl) (n := nn) (by have := hM.1; omega) (by have := hM.2.1; omega) (by have := hM.2.2.1; omega) hlT hlP hnn
  obtain ⟨⟨y1, y2⟩, ⟨y3, y4⟩, ⟨y5, y6⟩, y7, y8⟩ := id hM
  refine sq hA (q_not rfl) rfl fun a hA => ?_
  refine wpList_nil ?_
  refine hK3 _ _ ?_
  clear hK3
  replace hA := hA.s5 10 5 4 3 2
  refine cond_f hA rfl ?_
  refine wp_skip ?_
  refine hK2 _ _ ?_
  clear hK2
  replace hA := hA.s4 5 4 3 2
  refine wp_seq_k fun K4 hK4 => ?_
  refine wp_region_lit ?_
  refine sq hA (q_loadW hH 0 rfl Tryz.underlying45 rfl ti45 rfl (by first | rfl | exact ordC_length hnn | (rw [ordC_length hnn]; decide))) rfl fun a hA => ?_
  refine sl hA (lo_call fn59 rfl (refbody22_any _ _ _ _ _ _ _ (hH.rd htv) (hH.rd hpv) (by first | omega | (simp; done) | (simp; omega)) (by first | omega | (simp; done) | (simp; omega)) _ (by first | assumption | (rw [List.length_map]; assumption) | rfl | exact sha_length _ | (simp; done) | (simp [*]; done) | omega) (by assumption))) rfl ?_
  rintro _ w ⟨v_t12, N_t12, rfl, hO_t12, hC⟩ a hA
  replace hH := HS.call0 hH hC
  clear hC
  refine asg hA fun a hA => ?_
  refine wpList_nil ?_
  refine hK4 _ _ ?_
  clear hK4
  replace hA := hA.s4 6 5 4 2
  refine wp_seq_k fun K5 hK5 => ?_
  refine wp_region_lit ?_
  refine sq hA (q_loadW hH 2 rfl Tryz.underlying25 rfl ti25 rfl (by first | omega | (simp; done) | (simp; omega) | (rw [List.length_map]; assumption) | assumption | rfl | (simp [*]; done) | (simp [*]; omega))) rfl fun a hA => ?_
  refine sl hA (lo_call fn60 rfl (refdigest_any _ (by first | assumption | (rw [List.length_map]; assumption) | rfl | exact sha_length _ | (simp; done) | (simp [*]; done) | omega))) rfl ?_
  rintro _ w ⟨v_t14, N_t14, rfl, hO_t14, hC⟩ a hA
  replace hH := HS.call0 hH hC
  clear hC
  refine mv hA fun a hA => ?_
  refine sl hA (lo_call fn61 rfl (refmac_any (hg.mono0 hH) _ _ _ _ (Own.rd0 hO_t14 hH 0 rfl) (Own.rd0 hO_t12 hH 1 rfl) (by first | omega | (simp; done) | (simp; omega)) (by first | omega | (simp; done) | (simp; omega)))) rfl ?_
  rintro _ w ⟨rfl, hC⟩ a hA
  replace hH := HS.call0 hH hC
  clear hC
  refine sl hA (lo_call fn60 rfl (refdigest_any _ (by first | assumption | (rw [List.length_map]; assumption) | rfl | exact sha_length _ | (simp; done) | (simp [*]; done) | omega))) rfl ?_
  rintro _ w ⟨v_t17, N_t17, rfl, hO_t17, hC⟩ a hA
  replace hH := HS.call0 hH hC
  clear hC
  refine asg hA fun a hA => ?_
  refine wpList_nil ?_
  refine hK5 _ _ ?_
  clear hK5
  replace hA := hA.s4 7 6 5 4
  refine wp_seq_k fun K6 hK6 => ?_
  refine wp_region_lit ?_
  refine mv hA fun a hA => ?_
  refine mv hA fun a hA => ?_
  replace hH := hH.pick [2, 0, 1, 3, 4] (Hs' := [_, _, _, _, _]) rfl
  refine sl hA (lo_appm hH Tryz.underlying41 Tryz.underlying41 (.inl rfl) ti5 rfl rfl rfl hO_t12 (Rd.src (Own.rd0 hO_t17 hH 1 rfl)) (one_B8 _) (by first | omega | (simp only [List.length_append, List.length_nil, hnn, macV_length]; omega)) (by first | omega | (simp only [List.length_append, List.length_nil, hnn, macV_length]; omega))) rfl ?_
  clear hH; rintro v_t20 w ⟨N_t20, hO_t20, hH⟩ a hA
  refine asg hA fun a hA => ?_
  refine asg hA fun a hA => ?_
  refine wpList_nil ?_
  refine hK6 _ _ ?_
  clear hK6
  replace hA := hA.s2 5 4
  refine wp_ret ?_
  refine post_ret hA (res_2 rfl hA rfl rfl) ?_
  replace hH := hH.pick [0] (Hs' := [_]) rfl
  exact ⟨_, rfl, v_t20, N_t20, by rw [encO_ok hM]; rfl, by rw [encO_ok hM]; exact hO_t20, hH⟩
 ·skip
  have hM : ¬ MayO jj aa ii T Pl := by assumption
  refine sq hA (q_not rfl) rfl fun a hA => ?_
  refine wpList_nil ?_
  refine hK3 _ _ ?_
  clear hK3
  replace hA := hA.s5 10 5 4 3 2
  refine cond_t hA rfl ?_
  refine wp_seq_k fun K7 hK7 => ?_
  refine wp_region_lit ?_
  refine asg hA fun a hA => ?_
  refine asg hA fun a hA => ?_
  refine wpList_nil ?_
  refine hK7 _ _ ?_
  clear hK7
  replace hA := hA.s4 5 4 3 2
  refine wp_ret ?_
  refine then_ret ?_
  refine post_ret hA (res_2 rfl hA rfl rfl) ?_
  replace hH := hH.pick [] (Hs' := []) rfl
  exact ⟨_, rfl, nilV, [], by rw [encO_bad hM]; rfl, by rw [encO_bad hM]; exact Ow.nil B8 _, hH.nilFront⟩


theorem refright22_any {w0 : World} {lv : Nat} (hg : Gl (lv + 2) w0) (v : Value) (l : Bs) (hr : By [] w0 v l) (hl : l.length ≤ 1048000) :
    Calls Tryz.prog 36 #[v] w0 (Ret fun r w' => ∃ v' N, v' = r ∧ Ow B8 5 v' (rightV l) N ∧ HS [] w0 w' [N]) := by
 have hH := HS.start w0
 refine start (n := 12) (E := [(0, _)]) Tryz.func36 rfl rfl rfl (args_look rfl) ?_
 intro a hA
 refine wp_seq_k fun K1 hK1 => ?_
 refine wp_region_lit ?_
 refine asg hA fun a hA => ?_
 refine wpList_nil ?_
 refine hK1 _ _ ?_
 clear hK1
 refine wp_seq_k fun K2 hK2 => ?_
 refine wp_region_lit ?_
 refine sl hA (lo_bsR (e := 5) ([119#8, 111#8, 114#8, 107#8]) hH rfl rfl (fun w => by kernel_rfl)) rfl ?_
 clear hH; rintro _ w ⟨b_t4, rfl, hH⟩ a hA
 refine sl hA (lo_cvBytes hH Tryz.underlying41 Tryz.underlying5 rfl rfl) rfl ?_
 clear hH; rintro v_t5 w ⟨N_t5, hO_t5, hH⟩ a hA
 refine mv hA fun a hA => ?_
 refine sl hA (lo_call fn77 rfl (join_any _ _ _ _ (Own.rd0 hO_t5 hH 0 rfl) (hH.rd hr) (by first | omega | (simp; done) | (simp; omega)))) rfl ?_
 rintro _ w ⟨v_t7, N_t7, rfl, hO_t7, hC⟩ a hA
 replace hH := HS.call0 hH hC
 clear hC
 refine sl hA (lo_call fn76 rfl (refsum_any (hg.mono0 hH) _ _ (Own.rd0 hO_t7 hH 0 rfl) (by first | omega | (simp; done) | (simp; omega)))) rfl ?_
 rintro _ w ⟨rfl, hC⟩ a hA
 replace hH := HS.call0 hH hC
 clear hC
 refine sl hA (lo_call fn60 rfl (refdigest_any _ (by first | assumption | (rw [List.length_map]; assumption) | rfl | exact sha_length _ | (simp; done) | (simp [*]; done) | omega))) rfl ?_
 rintro _ w ⟨v_t9, N_t9, rfl, hO_t9, hC⟩ a hA
 replace hH := HS.call0 hH hC
 clear hC
 refine asg hA fun a hA => ?_
 refine wpList_nil ?_
 refine hK2 _ _ ?_
 clear hK2
 replace hA := hA.s2 3 2
 refine wp_seq_k fun K3 hK3 => ?_
 refine wp_region_lit ?_
 refine mv hA fun a hA => ?_
 obtain ⟨v_t11, hv_t11, hO_t11⟩ := Ow.cut hO_t9 (0) (8) (by first | omega | (simp [sha_length]; done)) (by first | omega | (simp [sha_length]; done))
 refine sq hA (q_slice Tryz.underlying41 ti5 rfl (0) (8) hv_t11 (Own.shp hO_t9) rfl rfl (rfl) (rfl) (by first | omega | (simp [sha_length]; done)) (by first | omega | (simp [sha_length]; done))) rfl fun a hA => ?_
 refine asg hA fun a hA => ?_
 refine wpList_nil ?_
 refine hK3 _ _ ?_
 clear hK3
 replace hA := hA.s1 2
 refine wp_ret ?_
 refine post_ret hA (res_1 rfl hA rfl) ?_
 replace hH := hH.pick [0] (Hs' := [_]) rfl
 exact ⟨_, rfl, v_t11, N_t9, rfl, by simpa [rightV] using hO_t11, hH⟩

end Go.Proofs.YtnnkgdijaekcfaaGreatDoor
