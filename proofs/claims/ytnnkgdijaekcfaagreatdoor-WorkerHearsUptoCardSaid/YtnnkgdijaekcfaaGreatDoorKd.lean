/- Layer 22 (worker): hearing. -/
import Derived.Test.YtnnkgdijaekcfaaGreatDoorKc
namespace Go.Proofs.YtnnkgdijaekcfaaGreatDoor
open Go
set_option linter.unusedVariables false
set_option linter.unusedSimpArgs false
set_option maxRecDepth 100000

theorem fn27 : FnOk Tryz.prog 27 := ⟨Tryz.f27, by kernel_rfl, by kernel_rfl, by kernel_rfl⟩
theorem ti62 : TI Tryz.prog 62 1 8 (.map none) := ⟨Tryz.t62, by kernel_rfl, by kernel_rfl, by kernel_rfl, by kernel_rfl⟩
theorem decw_g {w0 : World} {lv : Nat} (hg : Gl lv w0) (key : Bs) (hkey : key.length = 32) (v : Value) (l : Bs) (hr : By [] w0 v l) (hl : l.length ≤ 1000000) {D : (Nat × Nat × Nat × Bs × Bs × Bs) × Nat} (hD : D = decO key l) : Calls Tryz.prog 26 #[(.agg ((key).map B8).toArray), v] w0 (Ret fun r w' => ∃ t p N1 N2, r = .tuple #[.agg (ordC D.1.1 D.1.2.1 D.1.2.2.1 t p D.1.2.2.2.2.2).toArray, I D.2] ∧ Ow B8 5 t D.1.2.2.2.1 N1 ∧ Ow B8 5 p D.1.2.2.2.2.1 N2 ∧ HS [] w0 w' [N1, N2]) := by
  rw [hD]
  exact decw_any hg key hkey v l hr hl
theorem decO_n (key l : Bs) : (decO key l).1.2.2.2.2.2.length = 32 := by
  by_cases h1 : (rEnd (oS l 7)).1 ≠ 0
  · rw [decO_1 h1]; simp
  · by_cases h2 : oM l = macV key (l.take (l.length - 32))
    · rw [decO_3 h1 h2]; exact oC_length l
    · rw [decO_2 h1 h2]; simp
theorem decO_may {key l : Bs} (h : (decO key l).2 = 0) : MayO (decO key l).1.1 (decO key l).1.2.1 (decO key l).1.2.2.1 (decO key l).1.2.2.2.1 (decO key l).1.2.2.2.2.1 := by
  by_cases h1 : (rEnd (oS l 7)).1 ≠ 0
  · rw [decO_1 h1] at h; exact absurd h h1
  · by_cases h2 : oM l = macV key (l.take (l.length - 32))
    · rw [decO_3 h1 h2]; exact (oS_zero (Classical.not_not.1 h1)).2
    · rw [decO_2 h1 h2] at h; exact absurd h (by simp)
theorem decO_len (key l : Bs) : (decO key l).1.2.2.2.1.length ≤ l.length ∧ (decO key l).1.2.2.2.2.1.length ≤ l.length := by
  by_cases h1 : (rEnd (oS l 7)).1 ≠ 0
  · rw [decO_1 h1]; exact ⟨Nat.zero_le _, Nat.zero_le _⟩
  · by_cases h2 : oM l = macV key (l.take (l.length - 32))
    · rw [decO_3 h1 h2]; exact oT_len l
    · rw [decO_2 h1 h2]; exact ⟨Nat.zero_le _, Nat.zero_le _⟩
set_option maxHeartbeats 1000000 in
theorem hear_bad {w0 : World} {lv : Nat} (hg : Gl lv w0) (key : Bs) (hkey : key.length = 32) (s : Bs) (hsd : s.length = 32) (n h : Nat) (hn : R7 n h) (v_l : Value) (b_w b_k b_s b_m : Nat) (hgM : NG lv [b_w, b_k, b_m]) (hSd : RdD [b_w, b_k, b_m] w0 (.slice (some ⟨b_s, 0, none⟩) 1 1) [s]) (hLv : RdD [b_w, b_k, b_m] w0 v_l (leavesK s n (2 ^ h))) (x : Nat) (hx : x ≤ 2 ^ h) (m : List (Int × Value)) (u : Value) (l : Bs) (hu : By [b_w, b_k, b_m] w0 u l) (hl : l.length ≤ 1000000) (D : (Nat × Nat × Nat × Bs × Bs × Bs) × Nat) (hD : D = decO key l) (he : D.2 ≠ 0) (hH : HS [b_w, b_k, b_m] w0 w0 [[(b_w, Obj.cells (wkC b_k key b_m).toArray 64 (0, 0))], [(b_k, Obj.cells (keyC (.func (.func 48) #[] #[.pointer (some ⟨b_s, 0, none⟩)]) v_l (pubK s n h) n x).toArray 107 (0, 0))], [(b_m, mapO m)]]) :
    Calls Tryz.prog 12 #[(.pointer (some ⟨b_w, 0, none⟩)), u] w0 (Ret fun r w' => r = .tuple #[.slice none 0 0, I D.2] ∧ HS [b_w, b_k, b_m] w0 w' [[(b_w, Obj.cells (wkC b_k key b_m).toArray 64 (0, 0))], [(b_k, Obj.cells (keyC (.func (.func 48) #[] #[.pointer (some ⟨b_s, 0, none⟩)]) v_l (pubK s n h) n x).toArray 107 (0, 0))], [(b_m, mapO m)]]) := by
 refine start (n := 120) (E := [(0, _), (1, _)]) Tryz.func12 rfl rfl rfl (args_look rfl) ?_
 intro a hA
 have hn5 := hn.1
 have hn1 := hn.1.1
 have hn2 := hn.1.2
 have hh6 : h ≤ 6 := by have := hn.2.2; omega
 have h64 := pow_le64 hh6
 have hp0 : 0 < 2 ^ h := Nat.pow_pos (by decide)
 have hPl := pubK_length s n h
 have hDn : D.1.2.2.2.2.2.length = 32 := by rw [hD]; exact decO_n key l
 have hDl : D.1.2.2.2.1.length ≤ l.length ∧ D.1.2.2.2.2.1.length ≤ l.length := by rw [hD]; exact decO_len key l
 have hshp : Shp v_l (2 ^ h) := by have := hLv.shp; rwa [leavesK_length] at this
 refine wp_seq_k fun K1 hK1 => ?_
 refine wp_region_lit ?_
 refine asg hA fun a hA => ?_
 refine asg hA fun a hA => ?_
 refine wpList_nil ?_
 refine hK1 _ _ ?_
 clear hK1
 refine wp_seq_k fun K2 hK2 => ?_
 refine wp_seq_k fun K3 hK3 => ?_
 refine wp_region_lit ?_
 refine mv hA fun a hA => ?_
 refine sq hA (q_ptrNil Tryz.underlying30 rfl rfl) rfl fun a hA => ?_
 refine wpList_nil ?_
 refine hK3 _ _ ?_
 clear hK3
 replace hA := hA.s5 14 5 4 0 1
 refine cond_f hA rfl ?_
 refine wp_skip ?_
 refine hK2 _ _ ?_
 clear hK2
 replace hA := hA.s4 5 4 0 1
 refine wp_seq_k fun K4 hK4 => ?_
 refine wp_region_lit ?_
 refine mv hA fun a hA => ?_
 refine sq hA (q_nilCheck rfl) rfl fun a hA => ?_
 refine sq hA (q_fld 1 Tryz.underlying64 rfl rfl ti25 rfl) rfl fun a hA => ?_
 refine sq hA (q_loadBA hH 0 rfl (List.mem_singleton.2 rfl) Tryz.underlying25 rfl ti25 rfl _ (wkC_from hkey) (by simp [hkey])) rfl fun a hA => ?_
 refine mv hA fun a hA => ?_
 refine sl hA (lo_call fn26 rfl (decw_g (hg.mono hH hgM) _ (by first | assumption | (rw [List.length_map]; assumption) | rfl | exact sha_length _ | (simp; done) | (simp [*]; done) | omega) _ _ (hH.rd hu) (by first | omega | (simp; done) | (simp; omega)) hD)) rfl ?_
 rintro _ w ⟨v_at21, v_bt21, N_at21, N_bt21, rfl, hO_at21, hO_bt21, hC⟩ a hA
 replace hH := HS.call0 hH hC
 clear hC
 refine mv hA fun a hA => ?_
 refine sq hA (q_extract rfl rfl) rfl fun a hA => ?_
 refine sq hA (q_extract rfl rfl) rfl fun a hA => ?_
 refine sl hA (lo_allocA hH ti45) rfl ?_
 clear hH; rintro _ w ⟨b_t6, rfl, hH⟩ a hA
 refine s0 hA (lo_storeAm hH ti45 rfl rfl (by first | rfl | exact ordC_length hDn) (by first | rfl | exact ordC_length hDn) (ordC_one (Own.one hO_at21) (Own.one hO_bt21))) ?_
 clear hH; rintro _ w hH
 refine asg hA fun a hA => ?_
 refine wpList_nil ?_
 refine hK4 _ _ ?_
 clear hK4
 replace hA := hA.s6 7 6 5 4 0 1
 refine wp_seq_k fun K5 hK5 => ?_
 refine wp_seq_k fun K6 hK6 => ?_
 refine wp_region_lit ?_
 refine mv hA fun a hA => ?_
 refine sq hA (q_neqI (n := 0) rfl rfl) rfl fun a hA => ?_
 refine wpList_nil ?_
 refine hK6 _ _ ?_
 clear hK6
 replace hA := hA.s7 25 7 6 5 4 0 1
 refine cond_d hA rfl (fun _ => ?_) (fun hnn => absurd (by omega) hnn)
 refine wp_seq_k fun K7 hK7 => ?_
 refine wp_region_lit ?_
 refine mv hA fun a hA => ?_
 refine asg hA fun a hA => ?_
 refine asg hA fun a hA => ?_
 refine wpList_nil ?_
 refine hK7 _ _ ?_
 clear hK7
 replace hA := hA.s6 5 4 7 6 0 1
 refine wp_ret ?_
 refine then_ret ?_
 refine post_ret hA (res_2 rfl hA rfl rfl) ?_
 replace hH := hH.pick [3, 4, 5, 0, 1, 2] (Hs' := [_, _, _, _, _, _]) rfl
 replace hH := hH.pick [0, 1, 2] (Hs' := [_, _, _]) rfl
 exact ⟨_, rfl, rfl, hH⟩

theorem bytesEq_any {w0 : World} (u v : Value) (p q : Bs) (hp : By [] w0 u p) (hq : By [] w0 v q) :
    Calls Tryz.prog 27 #[u, v] w0 (Ret fun r w' => r = .bool (decide (p = q)) ∧ HS [] w0 w' []) := by
 have hH := HS.start w0
 refine start (n := 10) (E := [(0, _), (1, _)]) Tryz.func27 rfl rfl rfl (args_look rfl) ?_
 intro a hA
 refine wp_seq_k fun K1 hK1 => ?_
 refine wp_region_lit ?_
 refine asg hA fun a hA => ?_
 refine wpList_nil ?_
 refine hK1 _ _ ?_
 clear hK1
 refine wp_seq_k fun K2 hK2 => ?_
 refine wp_region_lit ?_
 refine mv hA fun a hA => ?_
 refine sq hA (q_bytesStr Tryz.underlying41 Tryz.underlying5 Tryz.underlying9 rfl (hH.rd hp)) rfl fun a hA => ?_
 refine mv hA fun a hA => ?_
 refine sq hA (q_bytesStr Tryz.underlying41 Tryz.underlying5 Tryz.underlying9 rfl (hH.rd hq)) rfl fun a hA => ?_
 refine sq hA (q_eqlStr Tryz.underlying9 rfl rfl) rfl fun a hA => ?_
 refine asg hA fun a hA => ?_
 refine wpList_nil ?_
 refine hK2 _ _ ?_
 clear hK2
 replace hA := hA.s1 4
 refine wp_ret ?_
 refine post_ret hA (res_1 rfl hA rfl) ?_
 exact ⟨_, rfl, rfl, hH⟩

set_option maxHeartbeats 1000000 in
theorem hear_state {w0 : World} {lv : Nat} (hg : Gl lv w0) (key : Bs) (hkey : key.length = 32) (s : Bs) (hsd : s.length = 32) (n h : Nat) (hn : R7 n h) (v_l : Value) (b_w b_k b_s b_m : Nat) (hgM : NG lv [b_w, b_k, b_m]) (hSd : RdD [b_w, b_k, b_m] w0 (.slice (some ⟨b_s, 0, none⟩) 1 1) [s]) (hLv : RdD [b_w, b_k, b_m] w0 v_l (leavesK s n (2 ^ h))) (x : Nat) (hx : x ≤ 2 ^ h) (m : List (Int × Value)) (u : Value) (l : Bs) (hu : By [b_w, b_k, b_m] w0 u l) (hl : l.length ≤ 1000000) (D : (Nat × Nat × Nat × Bs × Bs × Bs) × Nat) (hD : D = decO key l) (he : D.2 = 0) (ov av : Value) (o a_ : Bs) (hmg : mget m (D.1.2.2.1 : Int) = some (.agg #[ov, av])) (hov : By [b_w, b_k, b_m] w0 ov o) (hav : By [b_w, b_k, b_m] w0 av a_) (hne : ¬ o = l) (hH : HS [b_w, b_k, b_m] w0 w0 [[(b_w, Obj.cells (wkC b_k key b_m).toArray 64 (0, 0))], [(b_k, Obj.cells (keyC (.func (.func 48) #[] #[.pointer (some ⟨b_s, 0, none⟩)]) v_l (pubK s n h) n x).toArray 107 (0, 0))], [(b_m, mapO m)]]) :
    Calls Tryz.prog 12 #[(.pointer (some ⟨b_w, 0, none⟩)), u] w0 (Ret fun r w' => r = .tuple #[.slice none 0 0, I 212] ∧ HS [b_w, b_k, b_m] w0 w' [[(b_w, Obj.cells (wkC b_k key b_m).toArray 64 (0, 0))], [(b_k, Obj.cells (keyC (.func (.func 48) #[] #[.pointer (some ⟨b_s, 0, none⟩)]) v_l (pubK s n h) n x).toArray 107 (0, 0))], [(b_m, mapO m)]]) := by
 refine start (n := 120) (E := [(0, _), (1, _)]) Tryz.func12 rfl rfl rfl (args_look rfl) ?_
 intro a hA
 have hn5 := hn.1
 have hn1 := hn.1.1
 have hn2 := hn.1.2
 have hh6 : h ≤ 6 := by have := hn.2.2; omega
 have h64 := pow_le64 hh6
 have hp0 : 0 < 2 ^ h := Nat.pow_pos (by decide)
 have hPl := pubK_length s n h
 have hDn : D.1.2.2.2.2.2.length = 32 := by rw [hD]; exact decO_n key l
 have hDl : D.1.2.2.2.1.length ≤ l.length ∧ D.1.2.2.2.2.1.length ≤ l.length := by rw [hD]; exact decO_len key l
 have hshp : Shp v_l (2 ^ h) := by have := hLv.shp; rwa [leavesK_length] at this
 refine wp_seq_k fun K1 hK1 => ?_
 refine wp_region_lit ?_
 refine asg hA fun a hA => ?_
 refine asg hA fun a hA => ?_
 refine wpList_nil ?_
 refine hK1 _ _ ?_
 clear hK1
 refine wp_seq_k fun K2 hK2 => ?_
 refine wp_seq_k fun K3 hK3 => ?_
 refine wp_region_lit ?_
 refine mv hA fun a hA => ?_
 refine sq hA (q_ptrNil Tryz.underlying30 rfl rfl) rfl fun a hA => ?_
 refine wpList_nil ?_
 refine hK3 _ _ ?_
 clear hK3
 replace hA := hA.s5 14 5 4 0 1
 refine cond_f hA rfl ?_
 refine wp_skip ?_
 refine hK2 _ _ ?_
 clear hK2
 replace hA := hA.s4 5 4 0 1
 refine wp_seq_k fun K4 hK4 => ?_
 refine wp_region_lit ?_
 refine mv hA fun a hA => ?_
 refine sq hA (q_nilCheck rfl) rfl fun a hA => ?_
 refine sq hA (q_fld 1 Tryz.underlying64 rfl rfl ti25 rfl) rfl fun a hA => ?_
 refine sq hA (q_loadBA hH 0 rfl (List.mem_singleton.2 rfl) Tryz.underlying25 rfl ti25 rfl _ (wkC_from hkey) (by simp [hkey])) rfl fun a hA => ?_
 refine mv hA fun a hA => ?_
 refine sl hA (lo_call fn26 rfl (decw_g (hg.mono hH hgM) _ (by first | assumption | (rw [List.length_map]; assumption) | rfl | exact sha_length _ | (simp; done) | (simp [*]; done) | omega) _ _ (hH.rd hu) (by first | omega | (simp; done) | (simp; omega)) hD)) rfl ?_
 rintro _ w ⟨v_at21, v_bt21, N_at21, N_bt21, rfl, hO_at21, hO_bt21, hC⟩ a hA
 replace hH := HS.call0 hH hC
 clear hC
 refine mv hA fun a hA => ?_
 refine sq hA (q_extract rfl rfl) rfl fun a hA => ?_
 refine sq hA (q_extract rfl rfl) rfl fun a hA => ?_
 refine sl hA (lo_allocA hH ti45) rfl ?_
 clear hH; rintro _ w ⟨b_t6, rfl, hH⟩ a hA
 refine s0 hA (lo_storeAm hH ti45 rfl rfl (by first | rfl | exact ordC_length hDn) (by first | rfl | exact ordC_length hDn) (ordC_one (Own.one hO_at21) (Own.one hO_bt21))) ?_
 clear hH; rintro _ w hH
 refine asg hA fun a hA => ?_
 refine wpList_nil ?_
 refine hK4 _ _ ?_
 clear hK4
 replace hA := hA.s6 7 6 5 4 0 1
 refine wp_seq_k fun K5 hK5 => ?_
 refine wp_seq_k fun K6 hK6 => ?_
 refine wp_region_lit ?_
 refine mv hA fun a hA => ?_
 refine sq hA (q_neqI (n := 0) rfl rfl) rfl fun a hA => ?_
 refine wpList_nil ?_
 refine hK6 _ _ ?_
 clear hK6
 replace hA := hA.s7 25 7 6 5 4 0 1
 refine cond_d hA rfl (fun hnn => absurd hnn (by omega)) (fun _ => ?_)
 refine wp_skip ?_
 refine hK5 _ _ ?_
 clear hK5
 replace hA := hA.s6 7 6 5 4 0 1
 refine wp_seq_k fun K7 hK7 => ?_
 refine wp_seq_k fun K8 hK8 => ?_
 refine any_go mixed (fun j => !(Nat.beq j 11)) hH ?_
 clear hH; intro w hH
 have hS := hH
 refine any_l 13 ?_
 refine p0 hA 0 1 rfl (fun w => (q_move rfl)) fun a hA => ?_
 refine p0 hA 1 3 rfl (fun w => (q_nilCheck rfl)) fun a hA => ?_
 refine p0 hA 2 7 rfl (fun w => (q_fld 33 Tryz.underlying64 rfl rfl ti62 rfl)) fun a hA => ?_
 refine r0 hA 3 15 rfl hS (fun w hH => (q_loadB hH 3 rfl (List.mem_singleton.2 rfl) Tryz.underlying62 rfl rfl (wkC_33 hkey))) fun a hA => ?_
 refine p0 hA 4 31 rfl (fun w => (q_fld 2 Tryz.underlying45 rfl rfl ti3 rfl)) fun a hA => ?_
 refine r0 hA 5 63 rfl hS (fun w hH => (q_loadB hH 0 rfl (List.mem_singleton.2 rfl) Tryz.underlying3 rfl rfl rfl)) fun a hA => ?_
 refine r0 hA 6 127 rfl hS (fun w hH => (q_lookup hH 5 rfl Tryz.underlying62 Tryz.underlying3 ti76 rfl rfl)) fun a hA => ?_
 rw [hmg] at hA
 simp only [Option.getD_some, Option.isSome_some] at hA
 refine p0 hA 7 255 rfl (fun w => (q_move rfl)) fun a hA => ?_
 refine p0 hA 8 511 rfl (fun w => (q_extract rfl rfl)) fun a hA => ?_
 refine p0 hA 9 1023 rfl (fun w => (q_extract rfl rfl)) fun a hA => ?_
 refine a1 hA 10 2047 rfl (lo_allocA hH ti76) ?_
 clear hH; rintro _ w ⟨b_t8, rfl, hH⟩
 replace hS := hH.pick [1, 2, 3, 4, 5, 6] (Hs' := [_, _, _, _, _, _]) rfl
 refine ⟨fun _ _ => hS, ?_⟩
 intro a hA
 refine a0n hA 11 4095 rfl (lo_storeAm hH ti76 rfl rfl (rfl) (rfl) (ones_cons (Rd.one hov) (ones_cons (Rd.one hav) ones_nil))) ?_
 clear hH; rintro _ w hH
 refine p0 hA 12 8191 rfl (fun w => (q_assign rfl)) fun a hA => ?_
 refine a_end (by kernel_rfl) ?_ _
 refine hK8 _ _ ?_
 clear hK8
 replace hA := hA.s8 9 8 7 6 5 4 0 1
 refine wp_seq_k fun K9 hK9 => ?_
 refine wp_region_lit ?_
 refine mv hA fun a hA => ?_
 refine wpList_nil ?_
 refine hK9 _ _ ?_
 clear hK9
 replace hA := hA.s8 37 8 7 6 5 4 0 1
 refine cond_t hA rfl ?_
 refine wp_seq_k fun K10 hK10 => ?_
 refine wp_seq_k fun K11 hK11 => ?_
 refine wp_region_lit ?_
 refine sq hA (q_fld 0 Tryz.underlying76 rfl rfl ti41 rfl) rfl fun a hA => ?_
 refine sq hA (q_loadB hH 0 rfl (List.mem_singleton.2 rfl) Tryz.underlying41 rfl rfl rfl) rfl fun a hA => ?_
 refine mv hA fun a hA => ?_
 refine sl hA (lo_call fn27 rfl (bytesEq_any _ _ _ _ (hH.rd hov) (hH.rd hu))) rfl ?_
 rintro _ w ⟨rfl, hC⟩ a hA
 replace hH := HS.call0 hH hC
 clear hC
 replace hA := hA.decF (by exact hne)
 refine sq hA (q_not rfl) rfl fun a hA => ?_
 refine wpList_nil ?_
 refine hK11 _ _ ?_
 clear hK11
 replace hA := hA.s8 42 8 7 6 5 4 0 1
 refine cond_t hA rfl ?_
 refine wp_seq_k fun K12 hK12 => ?_
 refine wp_region_lit ?_
 refine asg hA fun a hA => ?_
 refine asg hA fun a hA => ?_
 refine wpList_nil ?_
 refine hK12 _ _ ?_
 clear hK12
 replace hA := hA.s7 5 4 8 7 6 0 1
 refine wp_ret ?_
 refine then_ret ?_
 refine then_ret ?_
 refine post_ret hA (res_2 rfl hA rfl rfl) ?_
 replace hH := hH.pick [4, 5, 6, 0, 1, 2, 3] (Hs' := [_, _, _, _, _, _, _]) rfl
 replace hH := hH.pick [0, 1, 2] (Hs' := [_, _, _]) rfl
 exact ⟨_, rfl, rfl, hH⟩

set_option maxHeartbeats 1000000 in
theorem hear_same {w0 : World} {lv : Nat} (hg : Gl lv w0) (key : Bs) (hkey : key.length = 32) (s : Bs) (hsd : s.length = 32) (n h : Nat) (hn : R7 n h) (v_l : Value) (b_w b_k b_s b_m : Nat) (hgM : NG lv [b_w, b_k, b_m]) (hSd : RdD [b_w, b_k, b_m] w0 (.slice (some ⟨b_s, 0, none⟩) 1 1) [s]) (hLv : RdD [b_w, b_k, b_m] w0 v_l (leavesK s n (2 ^ h))) (x : Nat) (hx : x ≤ 2 ^ h) (m : List (Int × Value)) (u : Value) (l : Bs) (hu : By [b_w, b_k, b_m] w0 u l) (hl : l.length ≤ 1000000) (D : (Nat × Nat × Nat × Bs × Bs × Bs) × Nat) (hD : D = decO key l) (he : D.2 = 0) (ov av : Value) (o a_ : Bs) (hmg : mget m (D.1.2.2.1 : Int) = some (.agg #[ov, av])) (hov : By [b_w, b_k, b_m] w0 ov o) (hav : By [b_w, b_k, b_m] w0 av a_) (hne : o = l) (hal : a_.length ≤ 1048576) (hH : HS [b_w, b_k, b_m] w0 w0 [[(b_w, Obj.cells (wkC b_k key b_m).toArray 64 (0, 0))], [(b_k, Obj.cells (keyC (.func (.func 48) #[] #[.pointer (some ⟨b_s, 0, none⟩)]) v_l (pubK s n h) n x).toArray 107 (0, 0))], [(b_m, mapO m)]]) :
    Calls Tryz.prog 12 #[(.pointer (some ⟨b_w, 0, none⟩)), u] w0 (Ret fun r w' => ∃ a' N1, r = .tuple #[a', I 0] ∧ Ow B8 5 a' a_ N1 ∧ HS [b_w, b_k, b_m] w0 w' [[(b_w, Obj.cells (wkC b_k key b_m).toArray 64 (0, 0))], [(b_k, Obj.cells (keyC (.func (.func 48) #[] #[.pointer (some ⟨b_s, 0, none⟩)]) v_l (pubK s n h) n x).toArray 107 (0, 0))], [(b_m, mapO m)], N1]) := by
 refine start (n := 120) (E := [(0, _), (1, _)]) Tryz.func12 rfl rfl rfl (args_look rfl) ?_
 intro a hA
 have hn5 := hn.1
 have hn1 := hn.1.1
 have hn2 := hn.1.2
 have hh6 : h ≤ 6 := by have := hn.2.2; omega
 have h64 := pow_le64 hh6
 have hp0 : 0 < 2 ^ h := Nat.pow_pos (by decide)
 have hPl := pubK_length s n h
 have hDn : D.1.2.2.2.2.2.length = 32 := by rw [hD]; exact decO_n key l
 have hDl : D.1.2.2.2.1.length ≤ l.length ∧ D.1.2.2.2.2.1.length ≤ l.length := by rw [hD]; exact decO_len key l
 have hshp : Shp v_l (2 ^ h) := by have := hLv.shp; rwa [leavesK_length] at this
 refine wp_seq_k fun K1 hK1 => ?_
 refine wp_region_lit ?_
 refine asg hA fun a hA => ?_
 refine asg hA fun a hA => ?_
 refine wpList_nil ?_
 refine hK1 _ _ ?_
 clear hK1
 refine wp_seq_k fun K2 hK2 => ?_
 refine wp_seq_k fun K3 hK3 => ?_
 refine wp_region_lit ?_
 refine mv hA fun a hA => ?_
 refine sq hA (q_ptrNil Tryz.underlying30 rfl rfl) rfl fun a hA => ?_
 refine wpList_nil ?_
 refine hK3 _ _ ?_
 clear hK3
 replace hA := hA.s5 14 5 4 0 1
 refine cond_f hA rfl ?_
 refine wp_skip ?_
 refine hK2 _ _ ?_
 clear hK2
 replace hA := hA.s4 5 4 0 1
 refine wp_seq_k fun K4 hK4 => ?_
 refine wp_region_lit ?_
 refine mv hA fun a hA => ?_
 refine sq hA (q_nilCheck rfl) rfl fun a hA => ?_
 refine sq hA (q_fld 1 Tryz.underlying64 rfl rfl ti25 rfl) rfl fun a hA => ?_
 refine sq hA (q_loadBA hH 0 rfl (List.mem_singleton.2 rfl) Tryz.underlying25 rfl ti25 rfl _ (wkC_from hkey) (by simp [hkey])) rfl fun a hA => ?_
 refine mv hA fun a hA => ?_
 refine sl hA (lo_call fn26 rfl (decw_g (hg.mono hH hgM) _ (by first | assumption | (rw [List.length_map]; assumption) | rfl | exact sha_length _ | (simp; done) | (simp [*]; done) | omega) _ _ (hH.rd hu) (by first | omega | (simp; done) | (simp; omega)) hD)) rfl ?_
 rintro _ w ⟨v_at21, v_bt21, N_at21, N_bt21, rfl, hO_at21, hO_bt21, hC⟩ a hA
 replace hH := HS.call0 hH hC
 clear hC
 refine mv hA fun a hA => ?_
 refine sq hA (q_extract rfl rfl) rfl fun a hA => ?_
 refine sq hA (q_extract rfl rfl) rfl fun a hA => ?_
 refine sl hA (lo_allocA hH ti45) rfl ?_
 clear hH; rintro _ w ⟨b_t6, rfl, hH⟩ a hA
 refine s0 hA (lo_storeAm hH ti45 rfl rfl (by first | rfl | exact ordC_length hDn) (by first | rfl | exact ordC_length hDn) (ordC_one (Own.one hO_at21) (Own.one hO_bt21))) ?_
 clear hH; rintro _ w hH
 refine asg hA fun a hA => ?_
 refine wpList_nil ?_
 refine hK4 _ _ ?_
 clear hK4
 replace hA := hA.s6 7 6 5 4 0 1
 refine wp_seq_k fun K5 hK5 => ?_
 refine wp_seq_k fun K6 hK6 => ?_
 refine wp_region_lit ?_
 refine mv hA fun a hA => ?_
 refine sq hA (q_neqI (n := 0) rfl rfl) rfl fun a hA => ?_
 refine wpList_nil ?_
 refine hK6 _ _ ?_
 clear hK6
 replace hA := hA.s7 25 7 6 5 4 0 1
 refine cond_d hA rfl (fun hnn => absurd hnn (by omega)) (fun _ => ?_)
 refine wp_skip ?_
 refine hK5 _ _ ?_
 clear hK5
 replace hA := hA.s6 7 6 5 4 0 1
 refine wp_seq_k fun K7 hK7 => ?_
 refine wp_seq_k fun K8 hK8 => ?_
 refine any_go mixed (fun j => !(Nat.beq j 11)) hH ?_
 clear hH; intro w hH
 have hS := hH
 refine any_l 13 ?_
 refine p0 hA 0 1 rfl (fun w => (q_move rfl)) fun a hA => ?_
 refine p0 hA 1 3 rfl (fun w => (q_nilCheck rfl)) fun a hA => ?_
 refine p0 hA 2 7 rfl (fun w => (q_fld 33 Tryz.underlying64 rfl rfl ti62 rfl)) fun a hA => ?_
 refine r0 hA 3 15 rfl hS (fun w hH => (q_loadB hH 3 rfl (List.mem_singleton.2 rfl) Tryz.underlying62 rfl rfl (wkC_33 hkey))) fun a hA => ?_
 refine p0 hA 4 31 rfl (fun w => (q_fld 2 Tryz.underlying45 rfl rfl ti3 rfl)) fun a hA => ?_
 refine r0 hA 5 63 rfl hS (fun w hH => (q_loadB hH 0 rfl (List.mem_singleton.2 rfl) Tryz.underlying3 rfl rfl rfl)) fun a hA => ?_
 refine r0 hA 6 127 rfl hS (fun w hH => (q_lookup hH 5 rfl Tryz.underlying62 Tryz.underlying3 ti76 rfl rfl)) fun a hA => ?_
 rw [hmg] at hA
 simp only [Option.getD_some, Option.isSome_some] at hA
 refine p0 hA 7 255 rfl (fun w => (q_move rfl)) fun a hA => ?_
 refine p0 hA 8 511 rfl (fun w => (q_extract rfl rfl)) fun a hA => ?_
 refine p0 hA 9 1023 rfl (fun w => (q_extract rfl rfl)) fun a hA => ?_
 refine a1 hA 10 2047 rfl (lo_allocA hH ti76) ?_
 clear hH; rintro _ w ⟨b_t8, rfl, hH⟩
 replace hS := hH.pick [1, 2, 3, 4, 5, 6] (Hs' := [_, _, _, _, _, _]) rfl
 refine ⟨fun _ _ => hS, ?_⟩
 intro a hA
 refine a0n hA 11 4095 rfl (lo_storeAm hH ti76 rfl rfl (rfl) (rfl) (ones_cons (Rd.one hov) (ones_cons (Rd.one hav) ones_nil))) ?_
 clear hH; rintro _ w hH
 refine p0 hA 12 8191 rfl (fun w => (q_assign rfl)) fun a hA => ?_
 refine a_end (by kernel_rfl) ?_ _
 refine hK8 _ _ ?_
 clear hK8
 replace hA := hA.s8 9 8 7 6 5 4 0 1
 refine wp_seq_k fun K9 hK9 => ?_
 refine wp_region_lit ?_
 refine mv hA fun a hA => ?_
 refine wpList_nil ?_
 refine hK9 _ _ ?_
 clear hK9
 replace hA := hA.s8 37 8 7 6 5 4 0 1
 refine cond_t hA rfl ?_
 refine wp_seq_k fun K10 hK10 => ?_
 refine wp_seq_k fun K11 hK11 => ?_
 refine wp_region_lit ?_
 refine sq hA (q_fld 0 Tryz.underlying76 rfl rfl ti41 rfl) rfl fun a hA => ?_
 refine sq hA (q_loadB hH 0 rfl (List.mem_singleton.2 rfl) Tryz.underlying41 rfl rfl rfl) rfl fun a hA => ?_
 refine mv hA fun a hA => ?_
 refine sl hA (lo_call fn27 rfl (bytesEq_any _ _ _ _ (hH.rd hov) (hH.rd hu))) rfl ?_
 rintro _ w ⟨rfl, hC⟩ a hA
 replace hH := HS.call0 hH hC
 clear hC
 replace hA := hA.decT (by exact hne)
 refine sq hA (q_not rfl) rfl fun a hA => ?_
 refine wpList_nil ?_
 refine hK11 _ _ ?_
 clear hK11
 replace hA := hA.s8 42 8 7 6 5 4 0 1
 refine cond_f hA rfl ?_
 refine wp_skip ?_
 refine hK10 _ _ ?_
 clear hK10
 replace hA := hA.s7 8 7 6 5 4 0 1
 refine wp_seq_k fun K12 hK12 => ?_
 refine wp_region_lit ?_
 refine sl hA (lo_bs (f := B8) (e := 5) ([]) hH rfl rfl (fun w => by kernel_rfl)) rfl ?_
 clear hH; rintro v_t43 w ⟨N_t43, hO_t43, hH⟩ a hA
 refine sq hA (q_fld 1 Tryz.underlying76 rfl rfl ti41 rfl) rfl fun a hA => ?_
 refine sq hA (q_loadB hH 1 rfl (List.mem_singleton.2 rfl) Tryz.underlying41 rfl rfl rfl) rfl fun a hA => ?_
 refine sl hA (lo_appm hH Tryz.underlying41 Tryz.underlying41 (.inl rfl) ti5 rfl rfl rfl hO_t43 (Rd.src (hH.rd hav)) (one_B8 _) (by first | omega | (simp; done) | (simp; omega)) (by first | omega | (simp; done) | (simp; omega))) rfl ?_
 clear hH; rintro v_t46 w ⟨N_t46, hO_t46, hH⟩ a hA
 refine asg hA fun a hA => ?_
 refine asg hA fun a hA => ?_
 refine wpList_nil ?_
 refine hK12 _ _ ?_
 clear hK12
 replace hA := hA.s6 5 4 7 6 0 1
 refine wp_ret ?_
 refine then_ret ?_
 refine post_ret hA (res_2 rfl hA rfl rfl) ?_
 replace hH := hH.pick [5, 6, 7, 0, 1, 2, 3, 4] (Hs' := [_, _, _, _, _, _, _, _]) rfl
 replace hH := hH.pick [0, 1, 2, 3] (Hs' := [_, _, _, _]) rfl
 exact ⟨_, rfl, v_t46, N_t46, rfl, by simpa using hO_t46, hH⟩

set_option maxHeartbeats 1000000 in
theorem hear_new {w0 : World} {lv : Nat} (hg : Gl lv w0) (key : Bs) (hkey : key.length = 32) (s : Bs) (hsd : s.length = 32) (n h : Nat) (hn : R7 n h) (v_l : Value) (b_w b_k b_s b_m : Nat) (hgM : NG lv [b_w, b_k, b_m]) (hSd : RdD [b_w, b_k, b_m] w0 (.slice (some ⟨b_s, 0, none⟩) 1 1) [s]) (hLv : RdD [b_w, b_k, b_m] w0 v_l (leavesK s n (2 ^ h))) (x : Nat) (hx : x ≤ 2 ^ h) (m : List (Int × Value)) (u : Value) (l : Bs) (hu : By [b_w, b_k, b_m] w0 u l) (hl : l.length ≤ 1000000) (D : (Nat × Nat × Nat × Bs × Bs × Bs) × Nat) (hD : D = decO key l) (he : D.2 = 0) (hmg : mget m (D.1.2.2.1 : Int) = none) (hix : x ≤ D.1.2.2.1) (hiq : D.1.2.2.1 < 2 ^ h) (hH : HS [b_w, b_k, b_m] w0 w0 [[(b_w, Obj.cells (wkC b_k key b_m).toArray 64 (0, 0))], [(b_k, Obj.cells (keyC (.func (.func 48) #[] #[.pointer (some ⟨b_s, 0, none⟩)]) v_l (pubK s n h) n x).toArray 107 (0, 0))], [(b_m, mapO m)]]) :
    Calls Tryz.prog 12 #[(.pointer (some ⟨b_w, 0, none⟩)), u] w0 (Ret fun r w' => ∃ a' ov av N1 N2 N3, r = .tuple #[a', I 0] ∧ Ow B8 5 a' (encR D.1.2.2.2.1 (rightV D.1.2.2.2.2.1) (encK (D.1.2.2.1 : Int) (otsK s n D.1.2.2.1 (txV (max (D.1.1 : Int) 0).toNat (max (D.1.2.1 : Int) 0).toNat (rightV D.1.2.2.2.2.1) D.1.2.2.2.2.2)) (pthK s n h D.1.2.2.1))) N1 ∧ Ow B8 5 ov l N2 ∧ Ow B8 5 av (encR D.1.2.2.2.1 (rightV D.1.2.2.2.2.1) (encK (D.1.2.2.1 : Int) (otsK s n D.1.2.2.1 (txV (max (D.1.1 : Int) 0).toNat (max (D.1.2.1 : Int) 0).toNat (rightV D.1.2.2.2.2.1) D.1.2.2.2.2.2)) (pthK s n h D.1.2.2.1))) N3 ∧ HS [b_w, b_k, b_m] w0 w' [[(b_w, Obj.cells (wkC b_k key b_m).toArray 64 (0, 0))], [(b_k, Obj.cells (keyC (.func (.func 48) #[] #[.pointer (some ⟨b_s, 0, none⟩)]) v_l (pubK s n h) n (D.1.2.2.1 + 1 : Nat)).toArray 107 (0, 0))], [(b_m, mapO (m ++ [((D.1.2.2.1 : Int), .agg #[ov, av])]))], N1, N2, N3]) := by
 refine start (n := 120) (E := [(0, _), (1, _)]) Tryz.func12 rfl rfl rfl (args_look rfl) ?_
 intro a hA
 have hn5 := hn.1
 have hn1 := hn.1.1
 have hn2 := hn.1.2
 have hh6 : h ≤ 6 := by have := hn.2.2; omega
 have h64 := pow_le64 hh6
 have hp0 : 0 < 2 ^ h := Nat.pow_pos (by decide)
 have hPl := pubK_length s n h
 have hDn : D.1.2.2.2.2.2.length = 32 := by rw [hD]; exact decO_n key l
 have hDl : D.1.2.2.2.1.length ≤ l.length ∧ D.1.2.2.2.2.1.length ≤ l.length := by rw [hD]; exact decO_len key l
 have hshp : Shp v_l (2 ^ h) := by have := hLv.shp; rwa [leavesK_length] at this
 refine wp_seq_k fun K1 hK1 => ?_
 refine wp_region_lit ?_
 refine asg hA fun a hA => ?_
 refine asg hA fun a hA => ?_
 refine wpList_nil ?_
 refine hK1 _ _ ?_
 clear hK1
 refine wp_seq_k fun K2 hK2 => ?_
 refine wp_seq_k fun K3 hK3 => ?_
 refine wp_region_lit ?_
 refine mv hA fun a hA => ?_
 refine sq hA (q_ptrNil Tryz.underlying30 rfl rfl) rfl fun a hA => ?_
 refine wpList_nil ?_
 refine hK3 _ _ ?_
 clear hK3
 replace hA := hA.s5 14 5 4 0 1
 refine cond_f hA rfl ?_
 refine wp_skip ?_
 refine hK2 _ _ ?_
 clear hK2
 replace hA := hA.s4 5 4 0 1
 refine wp_seq_k fun K4 hK4 => ?_
 refine wp_region_lit ?_
 refine mv hA fun a hA => ?_
 refine sq hA (q_nilCheck rfl) rfl fun a hA => ?_
 refine sq hA (q_fld 1 Tryz.underlying64 rfl rfl ti25 rfl) rfl fun a hA => ?_
 refine sq hA (q_loadBA hH 0 rfl (List.mem_singleton.2 rfl) Tryz.underlying25 rfl ti25 rfl _ (wkC_from hkey) (by simp [hkey])) rfl fun a hA => ?_
 refine mv hA fun a hA => ?_
 refine sl hA (lo_call fn26 rfl (decw_g (hg.mono hH hgM) _ (by first | assumption | (rw [List.length_map]; assumption) | rfl | exact sha_length _ | (simp; done) | (simp [*]; done) | omega) _ _ (hH.rd hu) (by first | omega | (simp; done) | (simp; omega)) hD)) rfl ?_
 rintro _ w ⟨v_at21, v_bt21, N_at21, N_bt21, rfl, hO_at21, hO_bt21, hC⟩ a hA
 replace hH := HS.call0 hH hC
 clear hC
 refine mv hA fun a hA => ?_
 refine sq hA (q_extract rfl rfl) rfl fun a hA => ?_
 refine sq hA (q_extract rfl rfl) rfl fun a hA => ?_
 have hM := decO_may (key := key) (l := l) (by rw [← hD]; exact he)
 rw [← hD] at hM
 obtain ⟨⟨_, hM1⟩, ⟨_, hM2⟩, ⟨_, hM3⟩, hM4, hM5⟩ := hM
 have hr8 := rightV_length D.1.2.2.2.2.1
 have hxl := txV_len (j := (max (D.1.1 : Int) 0).toNat) (a := (max (D.1.2.1 : Int) 0).toNat) (v := rightV D.1.2.2.2.2.1) (nonce := D.1.2.2.2.2.2) (by omega) (by omega) (by omega) hDn
 refine sl hA (lo_allocA hH ti45) rfl ?_
 clear hH; rintro _ w ⟨b_t6, rfl, hH⟩ a hA
 refine s0 hA (lo_storeAm hH ti45 rfl rfl (by first | rfl | exact ordC_length hDn) (by first | rfl | exact ordC_length hDn) (ordC_one (Own.one hO_at21) (Own.one hO_bt21))) ?_
 clear hH; rintro _ w hH
 refine asg hA fun a hA => ?_
 refine wpList_nil ?_
 refine hK4 _ _ ?_
 clear hK4
 replace hA := hA.s6 7 6 5 4 0 1
 refine wp_seq_k fun K5 hK5 => ?_
 refine wp_seq_k fun K6 hK6 => ?_
 refine wp_region_lit ?_
 refine mv hA fun a hA => ?_
 refine sq hA (q_neqI (n := 0) rfl rfl) rfl fun a hA => ?_
 refine wpList_nil ?_
 refine hK6 _ _ ?_
 clear hK6
 replace hA := hA.s7 25 7 6 5 4 0 1
 refine cond_d hA rfl (fun hnn => absurd hnn (by omega)) (fun _ => ?_)
 refine wp_skip ?_
 refine hK5 _ _ ?_
 clear hK5
 replace hA := hA.s6 7 6 5 4 0 1
 refine wp_seq_k fun K7 hK7 => ?_
 refine wp_seq_k fun K8 hK8 => ?_
 refine any_go mixed (fun j => !(Nat.beq j 11)) hH ?_
 clear hH; intro w hH
 have hS := hH
 refine any_l 13 ?_
 refine p0 hA 0 1 rfl (fun w => (q_move rfl)) fun a hA => ?_
 refine p0 hA 1 3 rfl (fun w => (q_nilCheck rfl)) fun a hA => ?_
 refine p0 hA 2 7 rfl (fun w => (q_fld 33 Tryz.underlying64 rfl rfl ti62 rfl)) fun a hA => ?_
 refine r0 hA 3 15 rfl hS (fun w hH => (q_loadB hH 3 rfl (List.mem_singleton.2 rfl) Tryz.underlying62 rfl rfl (wkC_33 hkey))) fun a hA => ?_
 refine p0 hA 4 31 rfl (fun w => (q_fld 2 Tryz.underlying45 rfl rfl ti3 rfl)) fun a hA => ?_
 refine r0 hA 5 63 rfl hS (fun w hH => (q_loadB hH 0 rfl (List.mem_singleton.2 rfl) Tryz.underlying3 rfl rfl rfl)) fun a hA => ?_
 refine r0 hA 6 127 rfl hS (fun w hH => (q_lookup hH 5 rfl Tryz.underlying62 Tryz.underlying3 ti76 rfl rfl)) fun a hA => ?_
 rw [hmg] at hA
 simp only [Option.getD_none, Option.isSome_none] at hA
 refine p0 hA 7 255 rfl (fun w => (q_move rfl)) fun a hA => ?_
 refine p0 hA 8 511 rfl (fun w => (q_extract rfl rfl)) fun a hA => ?_
 refine p0 hA 9 1023 rfl (fun w => (q_extract rfl rfl)) fun a hA => ?_
 refine a1 hA 10 2047 rfl (lo_allocA hH ti76) ?_
 clear hH; rintro _ w ⟨b_t8, rfl, hH⟩
 replace hS := hH.pick [1, 2, 3, 4, 5, 6] (Hs' := [_, _, _, _, _, _]) rfl
 refine ⟨fun _ _ => hS, ?_⟩
 intro a hA
 refine a0n hA 11 4095 rfl (lo_storeAm hH ti76 rfl rfl (rfl) (rfl) (ones_cons rfl (ones_cons rfl ones_nil))) ?_
 clear hH; rintro _ w hH
 refine p0 hA 12 8191 rfl (fun w => (q_assign rfl)) fun a hA => ?_
 refine a_end (by kernel_rfl) ?_ _
 refine hK8 _ _ ?_
 clear hK8
 replace hA := hA.s8 9 8 7 6 5 4 0 1
 refine wp_seq_k fun K9 hK9 => ?_
 refine wp_region_lit ?_
 refine mv hA fun a hA => ?_
 refine wpList_nil ?_
 refine hK9 _ _ ?_
 clear hK9
 replace hA := hA.s8 37 8 7 6 5 4 0 1
 refine cond_f hA rfl ?_
 refine wp_skip ?_
 refine hK7 _ _ ?_
 clear hK7
 replace hA := hA.s6 7 6 5 4 0 1
 refine wp_seq_k fun K10 hK10 => ?_
 refine wp_seq_k fun K11 hK11 => ?_
 refine any_go mixed (fun _ => true) hH ?_
 clear hH; intro w hH
 have hS := hH
 refine any_l 24 ?_
 refine p0 hA 0 1 rfl (fun w => (q_fld 2 Tryz.underlying45 rfl rfl ti3 rfl)) fun a hA => ?_
 refine r0 hA 1 3 rfl hS (fun w hH => (q_loadB hH 1 rfl (List.mem_singleton.2 rfl) Tryz.underlying3 rfl rfl rfl)) fun a hA => ?_
 refine p0 hA 2 7 rfl (fun w => (q_move rfl)) fun a hA => ?_
 refine p0 hA 3 15 rfl (fun w => (q_nilCheck rfl)) fun a hA => ?_
 refine p0 hA 4 31 rfl (fun w => (q_fld 0 Tryz.underlying64 rfl rfl ti59 rfl)) fun a hA => ?_
 refine r0 hA 5 63 rfl hS (fun w hH => (q_loadB hH 4 rfl (List.mem_singleton.2 rfl) Tryz.underlying59 rfl rfl rfl)) fun a hA => ?_
 replace hH := hH.pick [5, 0, 1, 2, 3, 4, 6] (Hs' := [_, _, _, _, _, _, _]) rfl
 refine a1 hA 6 127 rfl (lo_call fn28 rfl (next7_any _ _ _ _ hPl _ _ _ hshp (by first | exact Nat.zero_le _ | omega | decide) (by first | assumption | omega | decide) (HS.handed (Ns1 := [_]) hH))) ?_
 rintro _ w ⟨rfl, hC⟩
 replace hH := HS.call (Ns1 := [_]) hH hC
 clear hC
 replace hS := hH.pick [1, 2, 3, 4, 5, 0, 6] (Hs' := [_, _, _, _, _, _, _]) rfl
 refine ⟨fun _ _ => hS, ?_⟩
 intro a hA
 refine p0 hA 7 255 rfl (fun w => (q_lssI rfl rfl)) fun a hA => ?_
 replace hA := hA.decF (by omega)
 refine p0 hA 8 511 rfl (fun w => (q_move rfl)) fun a hA => ?_
 refine pg hA 9 1023 rfl rfl rfl (fun w => (q_fld 2 Tryz.underlying45 rfl rfl ti3 rfl)) fun a hA => ?_
 refine rg hA 10 2047 rfl rfl rfl hS (fun w hH => (q_loadB hH 1 rfl (List.mem_singleton.2 rfl) Tryz.underlying3 rfl rfl rfl)) fun a hA => ?_
 refine pg hA 11 4095 rfl rfl rfl (fun w => (q_move rfl)) fun a hA => ?_
 refine pg hA 12 8191 rfl rfl rfl (fun w => (q_nilCheck rfl)) fun a hA => ?_
 refine pg hA 13 16383 rfl rfl rfl (fun w => (q_fld 0 Tryz.underlying64 rfl rfl ti59 rfl)) fun a hA => ?_
 refine rg hA 14 32767 rfl rfl rfl hS (fun w hH => (q_loadB hH 4 rfl (List.mem_singleton.2 rfl) Tryz.underlying59 rfl rfl rfl)) fun a hA => ?_
 refine pg hA 16 98303 rfl rfl rfl (fun w => (q_move rfl)) fun a hA => ?_
 refine pg hA 17 229375 rfl rfl rfl (fun w => (q_nilCheck rfl)) fun a hA => ?_
 refine pg hA 18 491519 rfl rfl rfl (fun w => (q_fld 0 Tryz.underlying64 rfl rfl ti59 rfl)) fun a hA => ?_
 refine rg hA 19 1015807 rfl rfl rfl hS (fun w hH => (q_loadB hH 4 rfl (List.mem_singleton.2 rfl) Tryz.underlying59 rfl rfl rfl)) fun a hA => ?_
 refine g1 hA 15 1048575 rfl rfl rfl (lo_call fn28 rfl (next7_any _ _ _ _ hPl _ _ _ hshp (by first | exact Nat.zero_le _ | omega | decide) (by first | assumption | omega | decide) (HS.handed (Ns1 := [_]) hH))) ?_
 rintro _ w ⟨rfl, hC⟩
 replace hH := HS.call (Ns1 := [_]) hH hC
 clear hC
 replace hS := hH.pick [1, 2, 3, 4, 5, 0, 6] (Hs' := [_, _, _, _, _, _, _]) rfl
 refine ⟨fun _ _ => hS, ?_⟩
 intro a hA
 refine g1 hA 20 2097151 rfl rfl rfl (lo_call fn29 rfl (left7_any _ _ _ _ hPl _ _ _ hshp (by first | exact Nat.zero_le _ | omega | decide) (by first | assumption | omega | decide) (HS.handed (Ns1 := [_]) hH))) ?_
 rintro _ w ⟨rfl, hC⟩
 replace hH := HS.call (Ns1 := [_]) hH hC
 clear hC
 replace hS := hH.pick [1, 2, 3, 4, 5, 0, 6] (Hs' := [_, _, _, _, _, _, _]) rfl
 refine ⟨fun _ _ => hS, ?_⟩
 intro a hA
 refine pg hA 21 4194303 rfl rfl rfl (fun w => (q_addI rfl rfl (by omega))) fun a hA => ?_
 refine pg hA 22 8388607 rfl rfl rfl (fun w => (q_geqI rfl rfl)) fun a hA => ?_
 replace hA := hA.decF (by omega)
 refine p0 hA 23 16777215 rfl (fun w => (q_pick_f rfl rfl)) fun a hA => ?_
 refine a_end (by kernel_rfl) ?_ _
 refine hK11 _ _ ?_
 clear hK11
 replace hA := hA.s7 70 7 6 5 4 0 1
 refine cond_f hA rfl ?_
 refine wp_skip ?_
 refine hK10 _ _ ?_
 clear hK10
 replace hA := hA.s6 7 6 5 4 0 1
 refine wp_seq_k fun K12 hK12 => ?_
 refine any_go mixed (fun j => !(Nat.beq j 6)) hH ?_
 clear hH; intro w hH
 have hS := hH
 refine any_l 7 ?_
 refine p0 hA 0 1 rfl (fun w => (q_move rfl)) fun a hA => ?_
 refine p0 hA 1 3 rfl (fun w => (q_nilCheck rfl)) fun a hA => ?_
 refine p0 hA 2 7 rfl (fun w => (q_fld 0 Tryz.underlying64 rfl rfl ti59 rfl)) fun a hA => ?_
 refine r0 hA 3 15 rfl hS (fun w hH => (q_loadB hH 5 rfl (List.mem_singleton.2 rfl) Tryz.underlying59 rfl rfl rfl)) fun a hA => ?_
 refine p0 hA 4 31 rfl (fun w => (q_fld 2 Tryz.underlying45 rfl rfl ti3 rfl)) fun a hA => ?_
 refine r0 hA 5 63 rfl hS (fun w hH => (q_loadB hH 2 rfl (List.mem_singleton.2 rfl) Tryz.underlying3 rfl rfl rfl)) fun a hA => ?_
 refine a1n hA 6 127 rfl (lo_call fn30 rfl (skip7_any _ _ _ _ hPl _ _ _ hshp (by first | exact Nat.zero_le _ | omega | decide) (by first | assumption | omega | decide) ((D.1.2.2.1 : Int)) (HS.handed (Ns1 := [_]) hH))) ?_
 rintro _ w ⟨rfl, hC⟩
 replace hH := HS.call (Ns1 := [_]) hH hC
 clear hC
 rw [show skT (2 ^ h) x (D.1.2.2.1 : Int) = (0, D.1.2.2.1) from skT_ok (by omega) (by omega)] at hH
 intro a hA
 refine a_end (by kernel_rfl) ?_ _
 refine hK12 _ _ ?_
 clear hK12
 replace hA := hA.s6 7 6 5 4 0 1
 refine wp_seq_k fun K13 hK13 => ?_
 refine wp_region_lit ?_
 refine sq hA (q_fld 4 Tryz.underlying45 rfl rfl ti41 rfl) rfl fun a hA => ?_
 refine sq hA (q_loadB hH 2 rfl (List.mem_singleton.2 rfl) Tryz.underlying41 rfl rfl rfl) rfl fun a hA => ?_
 refine sl hA (lo_call fn18 rfl (right22_any (hg.mono hH hgM) _ _ (Own.rd0 hO_bt21 hH 4 rfl) (by first | omega | (simp; done) | (simp; omega)))) rfl ?_
 rintro _ w ⟨v_t80, N_t80, rfl, hO_t80, hC⟩ a hA
 replace hH := HS.call0 hH hC
 clear hC
 refine asg hA fun a hA => ?_
 refine wpList_nil ?_
 refine hK13 _ _ ?_
 clear hK13
 replace hA := hA.s7 10 7 6 5 4 0 1
 refine wp_seq_k fun K14 hK14 => ?_
 refine any_goI mixed [0, 2, 3, 4, 5, 6, 7] (Hs' := [_, _, _, _, _, _, _]) rfl (fun j => !(Nat.beq j 17)) hH ?_
 clear hH; intro w hH hS
 refine any_l 19 ?_
 refine p0 hA 0 1 rfl (fun w => (q_move rfl)) fun a hA => ?_
 refine p0 hA 1 3 rfl (fun w => (q_nilCheck rfl)) fun a hA => ?_
 refine p0 hA 2 7 rfl (fun w => (q_fld 0 Tryz.underlying64 rfl rfl ti59 rfl)) fun a hA => ?_
 refine r0 hA 3 15 rfl hS (fun w hH => (q_loadB hH 5 rfl (List.mem_singleton.2 rfl) Tryz.underlying59 rfl rfl rfl)) fun a hA => ?_
 refine p0 hA 4 31 rfl (fun w => (q_fld 0 Tryz.underlying45 rfl rfl ti3 rfl)) fun a hA => ?_
 refine r0 hA 5 63 rfl hS (fun w hH => (q_loadB hH 2 rfl (List.mem_singleton.2 rfl) Tryz.underlying3 rfl rfl rfl)) fun a hA => ?_
 refine p0 hA 6 127 rfl (fun w => (q_fld 1 Tryz.underlying45 rfl rfl ti3 rfl)) fun a hA => ?_
 refine r0 hA 7 255 rfl hS (fun w hH => (q_loadB hH 2 rfl (List.mem_singleton.2 rfl) Tryz.underlying3 rfl rfl rfl)) fun a hA => ?_
 refine p0 hA 8 511 rfl (fun w => (q_move rfl)) fun a hA => ?_
 refine p0 hA 9 1023 rfl (fun w => (q_fld 5 Tryz.underlying45 rfl rfl ti25 rfl)) fun a hA => ?_
 refine r0 hA 10 2047 rfl hS (fun w hH => (q_loadBA hH 2 rfl (List.mem_singleton.2 rfl) Tryz.underlying25 rfl ti25 rfl _ (ordC_n hDn) (by simp [hDn]))) fun a hA => ?_
 refine a_ch2 (i := 11) (j := 16) (by kernel_rfl) ?_ ?_
 ·skip
  refine o1 hA 11 4095 rfl (lo_call fn32 rfl (text20_any _ _ (by first | exact hts9 _ | assumption | omega | decide) (by first | exact hts9 _ | assumption | omega | decide) _ _ (Own.rd0 hO_t80 hH 0 rfl) (by first | omega | (simp; done) | (simp; omega)) _ (by first | assumption | (rw [List.length_map]; assumption) | rfl | exact sha_length _ | (simp; done) | (simp [*]; done) | omega))) ?_
  rintro _ w ⟨v_t93, N_t93, rfl, hO_t93, hC⟩
  replace hH := HS.call0 hH hC
  clear hC
  replace hS := hH.pick [1, 3, 4, 5, 6, 7, 8] (Hs' := [_, _, _, _, _, _, _]) rfl
  refine ⟨fun _ _ => hS, ?_⟩
  intro a hA
  refine a_ch2 (i := 12) (j := 16) (by kernel_rfl) ?_ ?_
  ·skip
   replace hH := hH.pick [2, 0, 1, 3, 4, 5, 6, 7, 8] (Hs' := [_, _, _, _, _, _, _, _, _]) rfl
   refine o1 hA 12 8191 rfl (lo_call fn31 rfl (sign7_any (hg.mono hH hgM) b_k b_s (hg.ng hgM hH) s hsd n h hn v_l (HS.rdM (Ns1 := [_]) hH hSd) (HS.rdM (Ns1 := [_]) hH hLv) D.1.2.2.1 (by omega) _ (txV (max (D.1.1 : Int) 0).toNat (max (D.1.2.1 : Int) 0).toNat (rightV D.1.2.2.2.2.1) D.1.2.2.2.2.2) (Own.rdM hO_t93 (Ns1 := [_]) hH 0 rfl) (by first | omega | (simp; done) | (simp; omega)) (HS.handed (Ns1 := [_]) hH))) ?_
   rintro _ w ⟨v_ot94, v_pt94, N_ot94, N_pt94, rfl, hOo_t94, hOp_t94, hC⟩
   replace hH := HS.call (Ns1 := [_]) hH hC
   clear hC
   have hdo := otsK_dg s n D.1.2.2.1 (txV (max (D.1.1 : Int) 0).toNat (max (D.1.2.1 : Int) 0).toNat (rightV D.1.2.2.2.2.1) D.1.2.2.2.2.2)
   have hdp := pthK_dg s n (show D.1.2.2.1 < 2 ^ h by omega)
   have hlo := otsK_length s n D.1.2.2.1 (txV (max (D.1.1 : Int) 0).toNat (max (D.1.2.1 : Int) 0).toNat (rightV D.1.2.2.2.2.1) D.1.2.2.2.2.2)
   have hlp := pthK_length s n h D.1.2.2.1
   have hel := encK_len (i := (D.1.2.2.1 : Int)) (by omega) hdo hdp
   replace hS := hH.pick [4, 5, 6, 7, 8, 9, 10] (Hs' := [_, _, _, _, _, _, _]) rfl
   refine ⟨fun _ _ => hS, ?_⟩
   intro a hA
   refine p0 hA 13 16383 rfl (fun w => (q_move rfl)) fun a hA => ?_
   refine p0 hA 14 32767 rfl (fun w => (q_extract rfl rfl)) fun a hA => ?_
   refine p0 hA 15 65535 rfl (fun w => (q_extract rfl rfl)) fun a hA => ?_
   refine a1 hA 16 131071 rfl (lo_allocA hH ti81) ?_
   clear hH; rintro _ w ⟨b_t11, rfl, hH⟩
   replace hS := hH.pick [5, 6, 7, 8, 9, 10, 11] (Hs' := [_, _, _, _, _, _, _]) rfl
   refine ⟨fun _ _ => hS, ?_⟩
   intro a hA
   refine a0n hA 17 262143 rfl (lo_storeAm hH ti81 rfl rfl (rfl) (rfl) (ones_cons rfl (ones_cons (Own.one hOo_t94) (ones_cons (Own.one hOp_t94) ones_nil)))) ?_
   clear hH; rintro _ w hH
   refine p0 hA 18 524287 rfl (fun w => (q_assign rfl)) fun a hA => ?_
   refine a_end (by kernel_rfl) ?_ _
   refine hK14 _ _ ?_
   clear hK14
   replace hA := hA.s8 7 11 10 6 5 4 0 1
   refine wp_seq_k fun K15 hK15 => ?_
   refine wp_seq_k fun K16 hK16 => ?_
   refine wp_region_lit ?_
   refine mv hA fun a hA => ?_
   refine sq hA (q_neqI (n := 0) rfl rfl) rfl fun a hA => ?_
   refine wpList_nil ?_
   refine hK16 _ _ ?_
   clear hK16
   replace hA := hA.s9 98 7 11 10 6 5 4 0 1
   refine cond_d hA rfl (fun hnn => absurd hnn ((fun h => h rfl))) (fun _ => ?_)
   refine wp_skip ?_
   refine hK15 _ _ ?_
   clear hK15
   replace hA := hA.s7 11 10 6 5 4 0 1
   refine wp_seq_k fun K17 hK17 => ?_
   refine wp_region_lit ?_
   refine sq hA (q_fld 3 Tryz.underlying45 rfl rfl ti41 rfl) rfl fun a hA => ?_
   refine sq hA (q_loadB hH 7 rfl (List.mem_singleton.2 rfl) Tryz.underlying41 rfl rfl rfl) rfl fun a hA => ?_
   refine mv hA fun a hA => ?_
   refine sq hA (q_loadW hH 0 rfl Tryz.underlying81 rfl ti81 rfl (by first | omega | (simp; done) | (simp; omega) | (rw [List.length_map]; assumption) | assumption | rfl | (simp [*]; done) | (simp [*]; omega))) rfl fun a hA => ?_
   refine sq hA (q_buildC (css := [[v_at21], [v_t80], _]) (z := [(.slice none 0 0), (.slice none 0 0), (I 0), (.slice none 0 0), (.slice none 0 0)]) (BT.mk (pl := [(0, 1), (1, 1), (2, 3)]) (it := Tryz.t87) (by kernel_rfl) Tryz.underlying87 (by kernel_rfl) (by kernel_rfl)) rfl ⟨cells_one (Own.one hO_at21), ⟨_, rfl, by first | rfl | (simp [Value.cells]; done) | (simp [Value.cells, *]; done), by decide⟩, cells_one (Own.one hO_t80), ⟨_, rfl, by first | rfl | (simp [Value.cells]; done) | (simp [Value.cells, *]; done), by decide⟩, rfl, ⟨_, rfl, by first | rfl | (simp [Value.cells]; done) | (simp [Value.cells, *]; done), by decide⟩, trivial⟩) rfl fun a hA => ?_
   refine sl hA (lo_call fn33 rfl (enc20_any _ _ _ _ (Own.rd0 hO_at21 hH 8 rfl) (Own.rd0 hO_t80 hH 5 rfl) (by first | omega | (simp; done) | (simp; omega)) (by first | omega | (simp; done) | (simp; omega)) _ _ _ _ _ (by first | assumption | exact Dg.nil) (by first | assumption | exact Dg.nil) (Own.rd0 hOo_t94 hH 2 rfl) (Own.rd0 hOp_t94 hH 3 rfl) (by first | omega | (simp; done) | (simp; omega)) (by first | omega | (simp; done) | (simp; omega)) (by omega) (by omega) (by omega))) rfl ?_
   rintro _ w ⟨v_t105, N_t105, rfl, hO_t105, hC⟩ a hA
   replace hH := HS.call0 hH hC
   clear hC
   have hrl := encR_len (u := D.1.2.2.2.1) (v := rightV D.1.2.2.2.2.1) (E := encK (D.1.2.2.1 : Int) (otsK s n D.1.2.2.1 (txV (max (D.1.1 : Int) 0).toNat (max (D.1.2.1 : Int) 0).toNat (rightV D.1.2.2.2.2.1) D.1.2.2.2.2.2)) (pthK s n h D.1.2.2.1)) (by omega) (by omega) (by omega)
   have hrl1 : (encR D.1.2.2.2.1 (rightV D.1.2.2.2.2.1) (encK (D.1.2.2.1 : Int) (otsK s n D.1.2.2.1 (txV (max (D.1.1 : Int) 0).toNat (max (D.1.2.1 : Int) 0).toNat (rightV D.1.2.2.2.2.1) D.1.2.2.2.2.2)) (pthK s n h D.1.2.2.1))).length ≤ 100000 := by omega
   simp at hrl1
   refine asg hA fun a hA => ?_
   refine wpList_nil ?_
   refine hK17 _ _ ?_
   clear hK17
   replace hA := hA.s6 12 6 5 4 0 1
   refine wp_seq_k fun K18 hK18 => ?_
   refine any_go mixed (fun j => !(Nat.beq j 11)) hH ?_
   clear hH; intro w hH
   have hS := hH
   refine any_l 12 ?_
   refine p0 hA 0 1 rfl (fun w => (q_move rfl)) fun a hA => ?_
   refine p0 hA 1 3 rfl (fun w => (q_nilCheck rfl)) fun a hA => ?_
   refine p0 hA 2 7 rfl (fun w => (q_fld 33 Tryz.underlying64 rfl rfl ti62 rfl)) fun a hA => ?_
   refine r0 hA 3 15 rfl hS (fun w hH => (q_loadB hH 11 rfl (List.mem_singleton.2 rfl) Tryz.underlying62 rfl rfl (wkC_33 hkey))) fun a hA => ?_
   refine p0 hA 4 31 rfl (fun w => (q_fld 2 Tryz.underlying45 rfl rfl ti3 rfl)) fun a hA => ?_
   refine r0 hA 5 63 rfl hS (fun w hH => (q_loadB hH 8 rfl (List.mem_singleton.2 rfl) Tryz.underlying3 rfl rfl rfl)) fun a hA => ?_
   refine p0 hA 7 191 rfl (fun w => (q_move rfl)) fun a hA => ?_
   refine p0 hA 9 703 rfl (fun w => (q_move rfl)) fun a hA => ?_
   refine a1 hA 6 767 rfl (lo_bs (f := B8) (e := 5) ([]) hH rfl rfl (fun w => by kernel_rfl)) ?_
   clear hH; rintro v_t112 w ⟨N_t112, hO_t112, hH⟩
   replace hS := hH.pick [1, 2, 3, 4, 5, 6, 7, 8, 9, 10, 11, 12, 13] (Hs' := [_, _, _, _, _, _, _, _, _, _, _, _, _]) rfl
   refine ⟨fun _ _ => hS, ?_⟩
   intro a hA
   refine a1 hA 8 1023 rfl (lo_appm hH Tryz.underlying41 Tryz.underlying41 (.inl rfl) ti5 rfl rfl rfl hO_t112 (Rd.src (hH.rd hu)) (one_B8 _) (by first | omega | (simp; done) | (simp; omega)) (by first | omega | (simp; done) | (simp; omega))) ?_
   clear hH; rintro v_t114 w ⟨N_t114, hO_t114, hH⟩
   replace hS := hH.pick [1, 2, 3, 4, 5, 6, 7, 8, 9, 10, 11, 12, 13] (Hs' := [_, _, _, _, _, _, _, _, _, _, _, _, _]) rfl
   refine ⟨fun _ _ => hS, ?_⟩
   intro a hA
   refine p0 hA 10 2047 rfl (fun w => (q_buildC (css := [[v_t114], [v_t105]]) (z := [(.slice none 0 0), (.slice none 0 0)]) (BT.mk (pl := [(0, 1), (1, 1)]) (it := Tryz.t76) (by kernel_rfl) Tryz.underlying76 (by kernel_rfl) (by kernel_rfl)) rfl ⟨cells_one (Own.one hO_t114), ⟨_, rfl, by first | rfl | (simp [Value.cells]; done) | (simp [Value.cells, *]; done), by decide⟩, cells_one (Own.one hO_t105), ⟨_, rfl, by first | rfl | (simp [Value.cells]; done) | (simp [Value.cells, *]; done), by decide⟩, trivial⟩)) fun a hA => ?_
   replace hH := hH.pick [13, 0, 1, 2, 3, 4, 5, 6, 7, 8, 9, 10, 11, 12] (Hs' := [_, _, _, _, _, _, _, _, _, _, _, _, _, _]) rfl
   refine a0n hA 11 4095 rfl (lo_mapNew hH Tryz.underlying62 Tryz.underlying3 rfl rfl rfl hmg) ?_
   clear hH; rintro _ w hH
   refine a_end (by kernel_rfl) ?_ _
   refine hK18 _ _ ?_
   clear hK18
   replace hA := hA.s3 12 5 4
   refine wp_seq_k fun K19 hK19 => ?_
   refine wp_region_lit ?_
   refine sl hA (lo_bs (f := B8) (e := 5) ([]) hH rfl rfl (fun w => by kernel_rfl)) rfl ?_
   clear hH; rintro v_t117 w ⟨N_t117, hO_t117, hH⟩ a hA
   refine mv hA fun a hA => ?_
   refine sl hA (lo_appm hH Tryz.underlying41 Tryz.underlying41 (.inl rfl) ti5 rfl rfl rfl hO_t117 (Rd.src (Own.rd0 hO_t105 hH 3 rfl)) (one_B8 _) (by first | omega | (simp; done) | (simp; omega)) (by first | omega | (simp; done) | (simp; omega))) rfl ?_
   clear hH; rintro v_t119 w ⟨N_t119, hO_t119, hH⟩ a hA
   refine asg hA fun a hA => ?_
   refine asg hA fun a hA => ?_
   refine wpList_nil ?_
   refine hK19 _ _ ?_
   clear hK19
   replace hA := hA.s2 5 4
   refine wp_ret ?_
   refine post_ret hA (res_2 rfl hA rfl rfl) ?_
   replace hH := hH.pick [14, 5, 1, 0, 2, 3, 4, 6, 7, 8, 9, 10, 11, 12, 13] (Hs' := [_, _, _, _, _, _, _, _, _, _, _, _, _, _, _]) rfl
   replace hH := hH.pick [0, 1, 2, 3, 4, 5] (Hs' := [_, _, _, _, _, _]) rfl
   exact ⟨_, rfl, v_t119, v_t114, v_t105, N_t119, N_t114, N_t105, rfl, by simpa using hO_t119, by simpa using hO_t114, hO_t105, hH⟩
  ·skip
   refine o1 hA 16 69631 rfl (lo_allocA hH ti81) ?_
   clear hH; rintro _ w ⟨b_t11, rfl, hH⟩
   replace hS := hH.pick [2, 4, 5, 6, 7, 8, 9] (Hs' := [_, _, _, _, _, _, _]) rfl
   refine ⟨fun _ _ => hS, ?_⟩
   intro a hA
   replace hH := hH.pick [3, 0, 1, 2, 4, 5, 6, 7, 8, 9] (Hs' := [_, _, _, _, _, _, _, _, _, _]) rfl
   refine a1 hA 12 73727 rfl (lo_call fn31 rfl (sign7_any (hg.mono hH hgM) b_k b_s (hg.ng hgM hH) s hsd n h hn v_l (HS.rdM (Ns1 := [_]) hH hSd) (HS.rdM (Ns1 := [_]) hH hLv) D.1.2.2.1 (by omega) _ (txV (max (D.1.1 : Int) 0).toNat (max (D.1.2.1 : Int) 0).toNat (rightV D.1.2.2.2.2.1) D.1.2.2.2.2.2) (Own.rdM hO_t93 (Ns1 := [_]) hH 1 rfl) (by first | omega | (simp; done) | (simp; omega)) (HS.handed (Ns1 := [_]) hH))) ?_
   rintro _ w ⟨v_ot94, v_pt94, N_ot94, N_pt94, rfl, hOo_t94, hOp_t94, hC⟩
   replace hH := HS.call (Ns1 := [_]) hH hC
   clear hC
   have hdo := otsK_dg s n D.1.2.2.1 (txV (max (D.1.1 : Int) 0).toNat (max (D.1.2.1 : Int) 0).toNat (rightV D.1.2.2.2.2.1) D.1.2.2.2.2.2)
   have hdp := pthK_dg s n (show D.1.2.2.1 < 2 ^ h by omega)
   have hlo := otsK_length s n D.1.2.2.1 (txV (max (D.1.1 : Int) 0).toNat (max (D.1.2.1 : Int) 0).toNat (rightV D.1.2.2.2.2.1) D.1.2.2.2.2.2)
   have hlp := pthK_length s n h D.1.2.2.1
   have hel := encK_len (i := (D.1.2.2.1 : Int)) (by omega) hdo hdp
   replace hS := hH.pick [5, 6, 7, 8, 9, 10, 11] (Hs' := [_, _, _, _, _, _, _]) rfl
   refine ⟨fun _ _ => hS, ?_⟩
   intro a hA
   refine p0 hA 13 81919 rfl (fun w => (q_move rfl)) fun a hA => ?_
   refine p0 hA 14 98303 rfl (fun w => (q_extract rfl rfl)) fun a hA => ?_
   refine p0 hA 15 131071 rfl (fun w => (q_extract rfl rfl)) fun a hA => ?_
   replace hH := hH.pick [3, 0, 1, 2, 4, 5, 6, 7, 8, 9, 10, 11] (Hs' := [_, _, _, _, _, _, _, _, _, _, _, _]) rfl
   refine a0n hA 17 262143 rfl (lo_storeAm hH ti81 rfl rfl (rfl) (rfl) (ones_cons rfl (ones_cons (Own.one hOo_t94) (ones_cons (Own.one hOp_t94) ones_nil)))) ?_
   clear hH; rintro _ w hH
   refine p0 hA 18 524287 rfl (fun w => (q_assign rfl)) fun a hA => ?_
   refine a_end (by kernel_rfl) ?_ _
   refine hK14 _ _ ?_
   clear hK14
   replace hA := hA.s8 7 11 10 6 5 4 0 1
   refine wp_seq_k fun K20 hK20 => ?_
   refine wp_seq_k fun K21 hK21 => ?_
   refine wp_region_lit ?_
   refine mv hA fun a hA => ?_
   refine sq hA (q_neqI (n := 0) rfl rfl) rfl fun a hA => ?_
   refine wpList_nil ?_
   refine hK21 _ _ ?_
   clear hK21
   replace hA := hA.s9 98 7 11 10 6 5 4 0 1
   refine cond_d hA rfl (fun hnn => absurd hnn ((fun h => h rfl))) (fun _ => ?_)
   refine wp_skip ?_
   refine hK20 _ _ ?_
   clear hK20
   replace hA := hA.s7 11 10 6 5 4 0 1
   refine wp_seq_k fun K22 hK22 => ?_
   refine wp_region_lit ?_
   refine sq hA (q_fld 3 Tryz.underlying45 rfl rfl ti41 rfl) rfl fun a hA => ?_
   refine sq hA (q_loadB hH 7 rfl (List.mem_singleton.2 rfl) Tryz.underlying41 rfl rfl rfl) rfl fun a hA => ?_
   refine mv hA fun a hA => ?_
   refine sq hA (q_loadW hH 0 rfl Tryz.underlying81 rfl ti81 rfl (by first | omega | (simp; done) | (simp; omega) | (rw [List.length_map]; assumption) | assumption | rfl | (simp [*]; done) | (simp [*]; omega))) rfl fun a hA => ?_
   refine sq hA (q_buildC (css := [[v_at21], [v_t80], _]) (z := [(.slice none 0 0), (.slice none 0 0), (I 0), (.slice none 0 0), (.slice none 0 0)]) (BT.mk (pl := [(0, 1), (1, 1), (2, 3)]) (it := Tryz.t87) (by kernel_rfl) Tryz.underlying87 (by kernel_rfl) (by kernel_rfl)) rfl ⟨cells_one (Own.one hO_at21), ⟨_, rfl, by first | rfl | (simp [Value.cells]; done) | (simp [Value.cells, *]; done), by decide⟩, cells_one (Own.one hO_t80), ⟨_, rfl, by first | rfl | (simp [Value.cells]; done) | (simp [Value.cells, *]; done), by decide⟩, rfl, ⟨_, rfl, by first | rfl | (simp [Value.cells]; done) | (simp [Value.cells, *]; done), by decide⟩, trivial⟩) rfl fun a hA => ?_
   refine sl hA (lo_call fn33 rfl (enc20_any _ _ _ _ (Own.rd0 hO_at21 hH 8 rfl) (Own.rd0 hO_t80 hH 5 rfl) (by first | omega | (simp; done) | (simp; omega)) (by first | omega | (simp; done) | (simp; omega)) _ _ _ _ _ (by first | assumption | exact Dg.nil) (by first | assumption | exact Dg.nil) (Own.rd0 hOo_t94 hH 2 rfl) (Own.rd0 hOp_t94 hH 3 rfl) (by first | omega | (simp; done) | (simp; omega)) (by first | omega | (simp; done) | (simp; omega)) (by omega) (by omega) (by omega))) rfl ?_
   rintro _ w ⟨v_t105, N_t105, rfl, hO_t105, hC⟩ a hA
   replace hH := HS.call0 hH hC
   clear hC
   have hrl := encR_len (u := D.1.2.2.2.1) (v := rightV D.1.2.2.2.2.1) (E := encK (D.1.2.2.1 : Int) (otsK s n D.1.2.2.1 (txV (max (D.1.1 : Int) 0).toNat (max (D.1.2.1 : Int) 0).toNat (rightV D.1.2.2.2.2.1) D.1.2.2.2.2.2)) (pthK s n h D.1.2.2.1)) (by omega) (by omega) (by omega)
   have hrl1 : (encR D.1.2.2.2.1 (rightV D.1.2.2.2.2.1) (encK (D.1.2.2.1 : Int) (otsK s n D.1.2.2.1 (txV (max (D.1.1 : Int) 0).toNat (max (D.1.2.1 : Int) 0).toNat (rightV D.1.2.2.2.2.1) D.1.2.2.2.2.2)) (pthK s n h D.1.2.2.1))).length ≤ 100000 := by omega
   simp at hrl1
   refine asg hA fun a hA => ?_
   refine wpList_nil ?_
   refine hK22 _ _ ?_
   clear hK22
   replace hA := hA.s6 12 6 5 4 0 1
   refine wp_seq_k fun K23 hK23 => ?_
   refine any_go mixed (fun j => !(Nat.beq j 11)) hH ?_
   clear hH; intro w hH
   have hS := hH
   refine any_l 12 ?_
   refine p0 hA 0 1 rfl (fun w => (q_move rfl)) fun a hA => ?_
   refine p0 hA 1 3 rfl (fun w => (q_nilCheck rfl)) fun a hA => ?_
   refine p0 hA 2 7 rfl (fun w => (q_fld 33 Tryz.underlying64 rfl rfl ti62 rfl)) fun a hA => ?_
   refine r0 hA 3 15 rfl hS (fun w hH => (q_loadB hH 11 rfl (List.mem_singleton.2 rfl) Tryz.underlying62 rfl rfl (wkC_33 hkey))) fun a hA => ?_
   refine p0 hA 4 31 rfl (fun w => (q_fld 2 Tryz.underlying45 rfl rfl ti3 rfl)) fun a hA => ?_
   refine r0 hA 5 63 rfl hS (fun w hH => (q_loadB hH 8 rfl (List.mem_singleton.2 rfl) Tryz.underlying3 rfl rfl rfl)) fun a hA => ?_
   refine p0 hA 7 191 rfl (fun w => (q_move rfl)) fun a hA => ?_
   refine p0 hA 9 703 rfl (fun w => (q_move rfl)) fun a hA => ?_
   refine a1 hA 6 767 rfl (lo_bs (f := B8) (e := 5) ([]) hH rfl rfl (fun w => by kernel_rfl)) ?_
   clear hH; rintro v_t112 w ⟨N_t112, hO_t112, hH⟩
   replace hS := hH.pick [1, 2, 3, 4, 5, 6, 7, 8, 9, 10, 11, 12, 13] (Hs' := [_, _, _, _, _, _, _, _, _, _, _, _, _]) rfl
   refine ⟨fun _ _ => hS, ?_⟩
   intro a hA
   refine a1 hA 8 1023 rfl (lo_appm hH Tryz.underlying41 Tryz.underlying41 (.inl rfl) ti5 rfl rfl rfl hO_t112 (Rd.src (hH.rd hu)) (one_B8 _) (by first | omega | (simp; done) | (simp; omega)) (by first | omega | (simp; done) | (simp; omega))) ?_
   clear hH; rintro v_t114 w ⟨N_t114, hO_t114, hH⟩
   replace hS := hH.pick [1, 2, 3, 4, 5, 6, 7, 8, 9, 10, 11, 12, 13] (Hs' := [_, _, _, _, _, _, _, _, _, _, _, _, _]) rfl
   refine ⟨fun _ _ => hS, ?_⟩
   intro a hA
   refine p0 hA 10 2047 rfl (fun w => (q_buildC (css := [[v_t114], [v_t105]]) (z := [(.slice none 0 0), (.slice none 0 0)]) (BT.mk (pl := [(0, 1), (1, 1)]) (it := Tryz.t76) (by kernel_rfl) Tryz.underlying76 (by kernel_rfl) (by kernel_rfl)) rfl ⟨cells_one (Own.one hO_t114), ⟨_, rfl, by first | rfl | (simp [Value.cells]; done) | (simp [Value.cells, *]; done), by decide⟩, cells_one (Own.one hO_t105), ⟨_, rfl, by first | rfl | (simp [Value.cells]; done) | (simp [Value.cells, *]; done), by decide⟩, trivial⟩)) fun a hA => ?_
   replace hH := hH.pick [13, 0, 1, 2, 3, 4, 5, 6, 7, 8, 9, 10, 11, 12] (Hs' := [_, _, _, _, _, _, _, _, _, _, _, _, _, _]) rfl
   refine a0n hA 11 4095 rfl (lo_mapNew hH Tryz.underlying62 Tryz.underlying3 rfl rfl rfl hmg) ?_
   clear hH; rintro _ w hH
   refine a_end (by kernel_rfl) ?_ _
   refine hK23 _ _ ?_
   clear hK23
   replace hA := hA.s3 12 5 4
   refine wp_seq_k fun K24 hK24 => ?_
   refine wp_region_lit ?_
   refine sl hA (lo_bs (f := B8) (e := 5) ([]) hH rfl rfl (fun w => by kernel_rfl)) rfl ?_
   clear hH; rintro v_t117 w ⟨N_t117, hO_t117, hH⟩ a hA
   refine mv hA fun a hA => ?_
   refine sl hA (lo_appm hH Tryz.underlying41 Tryz.underlying41 (.inl rfl) ti5 rfl rfl rfl hO_t117 (Rd.src (Own.rd0 hO_t105 hH 3 rfl)) (one_B8 _) (by first | omega | (simp; done) | (simp; omega)) (by first | omega | (simp; done) | (simp; omega))) rfl ?_
   clear hH; rintro v_t119 w ⟨N_t119, hO_t119, hH⟩ a hA
   refine asg hA fun a hA => ?_
   refine asg hA fun a hA => ?_
   refine wpList_nil ?_
   refine hK24 _ _ ?_
   clear hK24
   replace hA := hA.s2 5 4
   refine wp_ret ?_
   refine post_ret hA (res_2 rfl hA rfl rfl) ?_
   replace hH := hH.pick [14, 5, 1, 0, 2, 3, 4, 6, 7, 8, 9, 10, 11, 12, 13] (Hs' := [_, _, _, _, _, _, _, _, _, _, _, _, _, _, _]) rfl
   replace hH := hH.pick [0, 1, 2, 3, 4, 5] (Hs' := [_, _, _, _, _, _]) rfl
   exact ⟨_, rfl, v_t119, v_t114, v_t105, N_t119, N_t114, N_t105, rfl, by simpa using hO_t119, by simpa using hO_t114, hO_t105, hH⟩
 ·skip
  refine o1 hA 16 67583 rfl (lo_allocA hH ti81) ?_
  clear hH; rintro _ w ⟨b_t11, rfl, hH⟩
  replace hS := hH.pick [1, 3, 4, 5, 6, 7, 8] (Hs' := [_, _, _, _, _, _, _]) rfl
  refine ⟨fun _ _ => hS, ?_⟩
  intro a hA
  refine a1 hA 11 69631 rfl (lo_call fn32 rfl (text20_any _ _ (by first | exact hts9 _ | assumption | omega | decide) (by first | exact hts9 _ | assumption | omega | decide) _ _ (Own.rd0 hO_t80 hH 1 rfl) (by first | omega | (simp; done) | (simp; omega)) _ (by first | assumption | (rw [List.length_map]; assumption) | rfl | exact sha_length _ | (simp; done) | (simp [*]; done) | omega))) ?_
  rintro _ w ⟨v_t93, N_t93, rfl, hO_t93, hC⟩
  replace hH := HS.call0 hH hC
  clear hC
  replace hS := hH.pick [2, 4, 5, 6, 7, 8, 9] (Hs' := [_, _, _, _, _, _, _]) rfl
  refine ⟨fun _ _ => hS, ?_⟩
  intro a hA
  replace hH := hH.pick [3, 0, 1, 2, 4, 5, 6, 7, 8, 9] (Hs' := [_, _, _, _, _, _, _, _, _, _]) rfl
  refine a1 hA 12 73727 rfl (lo_call fn31 rfl (sign7_any (hg.mono hH hgM) b_k b_s (hg.ng hgM hH) s hsd n h hn v_l (HS.rdM (Ns1 := [_]) hH hSd) (HS.rdM (Ns1 := [_]) hH hLv) D.1.2.2.1 (by omega) _ (txV (max (D.1.1 : Int) 0).toNat (max (D.1.2.1 : Int) 0).toNat (rightV D.1.2.2.2.2.1) D.1.2.2.2.2.2) (Own.rdM hO_t93 (Ns1 := [_]) hH 0 rfl) (by first | omega | (simp; done) | (simp; omega)) (HS.handed (Ns1 := [_]) hH))) ?_
  rintro _ w ⟨v_ot94, v_pt94, N_ot94, N_pt94, rfl, hOo_t94, hOp_t94, hC⟩
  replace hH := HS.call (Ns1 := [_]) hH hC
  clear hC
  have hdo := otsK_dg s n D.1.2.2.1 (txV (max (D.1.1 : Int) 0).toNat (max (D.1.2.1 : Int) 0).toNat (rightV D.1.2.2.2.2.1) D.1.2.2.2.2.2)
  have hdp := pthK_dg s n (show D.1.2.2.1 < 2 ^ h by omega)
  have hlo := otsK_length s n D.1.2.2.1 (txV (max (D.1.1 : Int) 0).toNat (max (D.1.2.1 : Int) 0).toNat (rightV D.1.2.2.2.2.1) D.1.2.2.2.2.2)
  have hlp := pthK_length s n h D.1.2.2.1
  have hel := encK_len (i := (D.1.2.2.1 : Int)) (by omega) hdo hdp
  replace hS := hH.pick [5, 6, 7, 8, 9, 10, 11] (Hs' := [_, _, _, _, _, _, _]) rfl
  refine ⟨fun _ _ => hS, ?_⟩
  intro a hA
  refine p0 hA 13 81919 rfl (fun w => (q_move rfl)) fun a hA => ?_
  refine p0 hA 14 98303 rfl (fun w => (q_extract rfl rfl)) fun a hA => ?_
  refine p0 hA 15 131071 rfl (fun w => (q_extract rfl rfl)) fun a hA => ?_
  replace hH := hH.pick [4, 0, 1, 2, 3, 5, 6, 7, 8, 9, 10, 11] (Hs' := [_, _, _, _, _, _, _, _, _, _, _, _]) rfl
  refine a0n hA 17 262143 rfl (lo_storeAm hH ti81 rfl rfl (rfl) (rfl) (ones_cons rfl (ones_cons (Own.one hOo_t94) (ones_cons (Own.one hOp_t94) ones_nil)))) ?_
  clear hH; rintro _ w hH
  refine p0 hA 18 524287 rfl (fun w => (q_assign rfl)) fun a hA => ?_
  refine a_end (by kernel_rfl) ?_ _
  refine hK14 _ _ ?_
  clear hK14
  replace hA := hA.s8 7 11 10 6 5 4 0 1
  refine wp_seq_k fun K25 hK25 => ?_
  refine wp_seq_k fun K26 hK26 => ?_
  refine wp_region_lit ?_
  refine mv hA fun a hA => ?_
  refine sq hA (q_neqI (n := 0) rfl rfl) rfl fun a hA => ?_
  refine wpList_nil ?_
  refine hK26 _ _ ?_
  clear hK26
  replace hA := hA.s9 98 7 11 10 6 5 4 0 1
  refine cond_d hA rfl (fun hnn => absurd hnn ((fun h => h rfl))) (fun _ => ?_)
  refine wp_skip ?_
  refine hK25 _ _ ?_
  clear hK25
  replace hA := hA.s7 11 10 6 5 4 0 1
  refine wp_seq_k fun K27 hK27 => ?_
  refine wp_region_lit ?_
  refine sq hA (q_fld 3 Tryz.underlying45 rfl rfl ti41 rfl) rfl fun a hA => ?_
  refine sq hA (q_loadB hH 7 rfl (List.mem_singleton.2 rfl) Tryz.underlying41 rfl rfl rfl) rfl fun a hA => ?_
  refine mv hA fun a hA => ?_
  refine sq hA (q_loadW hH 0 rfl Tryz.underlying81 rfl ti81 rfl (by first | omega | (simp; done) | (simp; omega) | (rw [List.length_map]; assumption) | assumption | rfl | (simp [*]; done) | (simp [*]; omega))) rfl fun a hA => ?_
  refine sq hA (q_buildC (css := [[v_at21], [v_t80], _]) (z := [(.slice none 0 0), (.slice none 0 0), (I 0), (.slice none 0 0), (.slice none 0 0)]) (BT.mk (pl := [(0, 1), (1, 1), (2, 3)]) (it := Tryz.t87) (by kernel_rfl) Tryz.underlying87 (by kernel_rfl) (by kernel_rfl)) rfl ⟨cells_one (Own.one hO_at21), ⟨_, rfl, by first | rfl | (simp [Value.cells]; done) | (simp [Value.cells, *]; done), by decide⟩, cells_one (Own.one hO_t80), ⟨_, rfl, by first | rfl | (simp [Value.cells]; done) | (simp [Value.cells, *]; done), by decide⟩, rfl, ⟨_, rfl, by first | rfl | (simp [Value.cells]; done) | (simp [Value.cells, *]; done), by decide⟩, trivial⟩) rfl fun a hA => ?_
  refine sl hA (lo_call fn33 rfl (enc20_any _ _ _ _ (Own.rd0 hO_at21 hH 8 rfl) (Own.rd0 hO_t80 hH 5 rfl) (by first | omega | (simp; done) | (simp; omega)) (by first | omega | (simp; done) | (simp; omega)) _ _ _ _ _ (by first | assumption | exact Dg.nil) (by first | assumption | exact Dg.nil) (Own.rd0 hOo_t94 hH 2 rfl) (Own.rd0 hOp_t94 hH 3 rfl) (by first | omega | (simp; done) | (simp; omega)) (by first | omega | (simp; done) | (simp; omega)) (by omega) (by omega) (by omega))) rfl ?_
  rintro _ w ⟨v_t105, N_t105, rfl, hO_t105, hC⟩ a hA
  replace hH := HS.call0 hH hC
  clear hC
  have hrl := encR_len (u := D.1.2.2.2.1) (v := rightV D.1.2.2.2.2.1) (E := encK (D.1.2.2.1 : Int) (otsK s n D.1.2.2.1 (txV (max (D.1.1 : Int) 0).toNat (max (D.1.2.1 : Int) 0).toNat (rightV D.1.2.2.2.2.1) D.1.2.2.2.2.2)) (pthK s n h D.1.2.2.1)) (by omega) (by omega) (by omega)
  have hrl1 : (encR D.1.2.2.2.1 (rightV D.1.2.2.2.2.1) (encK (D.1.2.2.1 : Int) (otsK s n D.1.2.2.1 (txV (max (D.1.1 : Int) 0).toNat (max (D.1.2.1 : Int) 0).toNat (rightV D.1.2.2.2.2.1) D.1.2.2.2.2.2)) (pthK s n h D.1.2.2.1))).length ≤ 100000 := by omega
  simp at hrl1
  refine asg hA fun a hA => ?_
  refine wpList_nil ?_
  refine hK27 _ _ ?_
  clear hK27
  replace hA := hA.s6 12 6 5 4 0 1
  refine wp_seq_k fun K28 hK28 => ?_
  refine any_go mixed (fun j => !(Nat.beq j 11)) hH ?_
  clear hH; intro w hH
  have hS := hH
  refine any_l 12 ?_
  refine p0 hA 0 1 rfl (fun w => (q_move rfl)) fun a hA => ?_
  refine p0 hA 1 3 rfl (fun w => (q_nilCheck rfl)) fun a hA => ?_
  refine p0 hA 2 7 rfl (fun w => (q_fld 33 Tryz.underlying64 rfl rfl ti62 rfl)) fun a hA => ?_
  refine r0 hA 3 15 rfl hS (fun w hH => (q_loadB hH 11 rfl (List.mem_singleton.2 rfl) Tryz.underlying62 rfl rfl (wkC_33 hkey))) fun a hA => ?_
  refine p0 hA 4 31 rfl (fun w => (q_fld 2 Tryz.underlying45 rfl rfl ti3 rfl)) fun a hA => ?_
  refine r0 hA 5 63 rfl hS (fun w hH => (q_loadB hH 8 rfl (List.mem_singleton.2 rfl) Tryz.underlying3 rfl rfl rfl)) fun a hA => ?_
  refine p0 hA 7 191 rfl (fun w => (q_move rfl)) fun a hA => ?_
  refine p0 hA 9 703 rfl (fun w => (q_move rfl)) fun a hA => ?_
  refine a1 hA 6 767 rfl (lo_bs (f := B8) (e := 5) ([]) hH rfl rfl (fun w => by kernel_rfl)) ?_
  clear hH; rintro v_t112 w ⟨N_t112, hO_t112, hH⟩
  replace hS := hH.pick [1, 2, 3, 4, 5, 6, 7, 8, 9, 10, 11, 12, 13] (Hs' := [_, _, _, _, _, _, _, _, _, _, _, _, _]) rfl
  refine ⟨fun _ _ => hS, ?_⟩
  intro a hA
  refine a1 hA 8 1023 rfl (lo_appm hH Tryz.underlying41 Tryz.underlying41 (.inl rfl) ti5 rfl rfl rfl hO_t112 (Rd.src (hH.rd hu)) (one_B8 _) (by first | omega | (simp; done) | (simp; omega)) (by first | omega | (simp; done) | (simp; omega))) ?_
  clear hH; rintro v_t114 w ⟨N_t114, hO_t114, hH⟩
  replace hS := hH.pick [1, 2, 3, 4, 5, 6, 7, 8, 9, 10, 11, 12, 13] (Hs' := [_, _, _, _, _, _, _, _, _, _, _, _, _]) rfl
  refine ⟨fun _ _ => hS, ?_⟩
  intro a hA
  refine p0 hA 10 2047 rfl (fun w => (q_buildC (css := [[v_t114], [v_t105]]) (z := [(.slice none 0 0), (.slice none 0 0)]) (BT.mk (pl := [(0, 1), (1, 1)]) (it := Tryz.t76) (by kernel_rfl) Tryz.underlying76 (by kernel_rfl) (by kernel_rfl)) rfl ⟨cells_one (Own.one hO_t114), ⟨_, rfl, by first | rfl | (simp [Value.cells]; done) | (simp [Value.cells, *]; done), by decide⟩, cells_one (Own.one hO_t105), ⟨_, rfl, by first | rfl | (simp [Value.cells]; done) | (simp [Value.cells, *]; done), by decide⟩, trivial⟩)) fun a hA => ?_
  replace hH := hH.pick [13, 0, 1, 2, 3, 4, 5, 6, 7, 8, 9, 10, 11, 12] (Hs' := [_, _, _, _, _, _, _, _, _, _, _, _, _, _]) rfl
  refine a0n hA 11 4095 rfl (lo_mapNew hH Tryz.underlying62 Tryz.underlying3 rfl rfl rfl hmg) ?_
  clear hH; rintro _ w hH
  refine a_end (by kernel_rfl) ?_ _
  refine hK28 _ _ ?_
  clear hK28
  replace hA := hA.s3 12 5 4
  refine wp_seq_k fun K29 hK29 => ?_
  refine wp_region_lit ?_
  refine sl hA (lo_bs (f := B8) (e := 5) ([]) hH rfl rfl (fun w => by kernel_rfl)) rfl ?_
  clear hH; rintro v_t117 w ⟨N_t117, hO_t117, hH⟩ a hA
  refine mv hA fun a hA => ?_
  refine sl hA (lo_appm hH Tryz.underlying41 Tryz.underlying41 (.inl rfl) ti5 rfl rfl rfl hO_t117 (Rd.src (Own.rd0 hO_t105 hH 3 rfl)) (one_B8 _) (by first | omega | (simp; done) | (simp; omega)) (by first | omega | (simp; done) | (simp; omega))) rfl ?_
  clear hH; rintro v_t119 w ⟨N_t119, hO_t119, hH⟩ a hA
  refine asg hA fun a hA => ?_
  refine asg hA fun a hA => ?_
  refine wpList_nil ?_
  refine hK29 _ _ ?_
  clear hK29
  replace hA := hA.s2 5 4
  refine wp_ret ?_
  refine post_ret hA (res_2 rfl hA rfl rfl) ?_
  replace hH := hH.pick [14, 5, 1, 0, 2, 3, 4, 6, 7, 8, 9, 10, 11, 12, 13] (Hs' := [_, _, _, _, _, _, _, _, _, _, _, _, _, _, _]) rfl
  replace hH := hH.pick [0, 1, 2, 3, 4, 5] (Hs' := [_, _, _, _, _, _]) rfl
  exact ⟨_, rfl, v_t119, v_t114, v_t105, N_t119, N_t114, N_t105, rfl, by simpa using hO_t119, by simpa using hO_t114, hO_t105, hH⟩

end Go.Proofs.YtnnkgdijaekcfaaGreatDoor
