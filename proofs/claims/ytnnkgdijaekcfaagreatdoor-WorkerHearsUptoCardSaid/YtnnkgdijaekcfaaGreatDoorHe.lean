/- Layer 7 (keys): a key is made; it signs. -/
import Derived.Test.YtnnkgdijaekcfaaGreatDoorHd
import Derived.Test.YtnnkgdijaekcfaaGreatDoorCi
import Derived.Test.YtnnkgdijaekcfaaGreatDoorDb
namespace Go.Proofs.YtnnkgdijaekcfaaGreatDoor
open Go
set_option linter.unusedVariables false
set_option linter.unusedSimpArgs false
set_option maxRecDepth 100000

theorem ti105 : TI Tryz.prog 105 1 8 .nilFunc := ⟨Tryz.t105, by kernel_rfl, by kernel_rfl, by kernel_rfl, by kernel_rfl⟩
theorem sign7_any {w0 : World} {lv : Nat} (hg : Gl lv w0) (b_k b_s : Nat) (hgM : NG lv [b_k]) (s : Bs) (hsd : s.length = 32) (n h : Nat) (hn : R7 n h) (v_l : Value) (hSd : RdD [b_k] w0 (.slice (some ⟨b_s, 0, none⟩) 1 1) [s]) (hLv : RdD [b_k] w0 v_l (leavesK s n (2 ^ h))) (x : Nat) (hx : x < 2 ^ h) (u : Value) (l : Bs) (hu : By [b_k] w0 u l) (hl : l.length ≤ 1048576) (hH : HS [b_k] w0 w0 [[(b_k, Obj.cells (keyC (.func (.func 48) #[] #[.pointer (some ⟨b_s, 0, none⟩)]) v_l (pubK s n h) n x).toArray 107 (0, 0))]]) :
    Calls Tryz.prog 31 #[(.pointer (some ⟨b_k, 0, none⟩)), u] w0 (Ret fun r w' => ∃ o p N1 N2, r = .tuple #[.agg #[I x, o, p], I 0] ∧ OwD 25 o (otsK s n x l) N1 ∧ OwD 25 p (pthK s n h x) N2 ∧ HS [b_k] w0 w' [[(b_k, Obj.cells (keyC (.func (.func 48) #[] #[.pointer (some ⟨b_s, 0, none⟩)]) v_l (pubK s n h) n (x + 1 : Nat)).toArray 107 (0, 0))], N1, N2]) := by
 refine start (n := 57) (E := [(0, _), (1, _)]) Tryz.func31 rfl rfl rfl (args_look rfl) ?_
 intro a hA
 have hn5 := hn.1
 have hn1 := hn.1.1
 have hn2 := hn.1.2
 have hh6 : h ≤ 6 := by have := hn.2.2; omega
 have h64 := pow_le64 hh6
 have hp0 : 0 < 2 ^ h := Nat.pow_pos (by decide)
 have hPl := pubK_length s n h
 have hshp : Shp v_l (2 ^ h) := by have := hLv.shp; rwa [leavesK_length] at this
 refine wp_seq_k fun K1 hK1 => ?_
 refine wp_region_lit ?_
 refine sl hA (lo_allocA hH ti81) rfl ?_
 clear hH; rintro _ w ⟨b_t4, rfl, hH⟩ a hA
 refine asg hA fun a hA => ?_
 refine wpList_nil ?_
 refine hK1 _ _ ?_
 clear hK1
 refine wp_seq_k fun K2 hK2 => ?_
 refine wp_block ?_
 refine wp_seq_k fun K3 hK3 => ?_
 refine wp_region_lit ?_
 refine mv hA fun a hA => ?_
 refine sq hA (q_ptrNil Tryz.underlying59 rfl rfl) rfl fun a hA => ?_
 refine asg hA fun a hA => ?_
 refine wpList_nil ?_
 refine hK3 _ _ ?_
 clear hK3
 replace hA := hA.s5 7 5 4 0 1
 refine cond_f hA rfl ?_
 refine wp_seq_k fun K4 hK4 => ?_
 refine wp_region_lit ?_
 refine mv hA fun a hA => ?_
 replace hH := hH.pick [1, 0] (Hs' := [_, _]) rfl
 refine sl hA (lo_call fn29 rfl (left7_any _ _ _ _ hPl _ _ (2 ^ h) hshp (by omega) (by omega) (HS.handed (Ns1 := [_]) hH))) rfl ?_
 rintro _ w ⟨rfl, hC⟩ a hA
 replace hH := HS.call (Ns1 := [_]) hH hC
 clear hC
 refine sq hA (Runs.bf (q_eqlI (n := 0) rfl rfl) (by omega)) rfl fun a hA => ?_
 refine asg hA fun a hA => ?_
 refine wpList_nil ?_
 refine hK4 _ _ ?_
 clear hK4
 replace hA := hA.s5 11 5 4 0 1
 refine cond_f hA rfl ?_
 refine wp_skip ?_
 refine block_normal ?_
 refine hK2 _ _ ?_
 clear hK2
 replace hA := hA.s4 5 4 0 1
 refine wp_seq_k fun K5 hK5 => ?_
 refine wp_region_lit ?_
 refine mv hA fun a hA => ?_
 refine sq hA (q_nilCheck rfl) rfl fun a hA => ?_
 refine sq hA (q_fld 35 Tryz.underlying107 rfl rfl ti3 rfl) rfl fun a hA => ?_
 refine sq hA (q_loadB hH 0 rfl (List.mem_singleton.2 rfl) Tryz.underlying3 rfl rfl (keyC_35 hPl)) rfl fun a hA => ?_
 refine sq hA (q_buildC (css := [_]) (z := [(I 0), (.slice none 0 0), (.slice none 0 0)]) (BT.mk (pl := [(0, 1), (1, 1), (2, 1)]) (it := Tryz.t81) (by kernel_rfl) Tryz.underlying81 (by kernel_rfl) (by kernel_rfl)) rfl ⟨rfl, ⟨_, rfl, by first | rfl | (simp [Value.cells]; done) | (simp [Value.cells, *]; done), by decide⟩, trivial⟩) rfl fun a hA => ?_
 refine sl hA (lo_allocA hH ti81) rfl ?_
 clear hH; rintro _ w ⟨b_t6, rfl, hH⟩ a hA
 refine s0 hA (lo_storeAm hH ti81 rfl rfl (rfl) (rfl) (ones_cons rfl (ones_cons rfl (ones_cons rfl ones_nil)))) ?_
 clear hH; rintro _ w hH
 refine wpList_nil ?_
 refine hK5 _ _ ?_
 clear hK5
 replace hA := hA.s5 6 5 4 0 1
 refine wp_seq_k fun K6 hK6 => ?_
 refine wp_region_lit ?_
 refine mv hA fun a hA => ?_
 refine sq hA (q_nilCheck rfl) rfl fun a hA => ?_
 refine sq hA (q_fld 35 Tryz.underlying107 rfl rfl ti3 rfl) rfl fun a hA => ?_
 refine sq hA (q_loadB hH 1 rfl (List.mem_singleton.2 rfl) Tryz.underlying3 rfl rfl (keyC_35 hPl)) rfl fun a hA => ?_
 refine sq hA (q_addI (n := 1) rfl rfl (by omega)) rfl fun a hA => ?_
 rw [show ((x : Nat) : Int) + 1 = ((x + 1 : Nat) : Int) by omega] at hA
 refine sq hA (q_nilCheck rfl) rfl fun a hA => ?_
 refine sq hA (q_fld 35 Tryz.underlying107 rfl rfl ti3 rfl) rfl fun a hA => ?_
 replace hH := hH.pick [1, 0, 2] (Hs' := [_, _, _]) rfl
 refine s0 hA (lo_store1 hH ti3 rfl rfl (by rw [keyC_length hPl]; decide) rfl) ?_
 clear hH; rintro _ w hH
 rw [keyC_set35 hPl] at hH
 refine wpList_nil ?_
 refine hK6 _ _ ?_
 clear hK6
 replace hA := hA.s5 6 5 4 0 1
 refine wp_seq_k fun K7 hK7 => ?_
 refine any_go mixed (fun j => !(Nat.beq j 17)) hH ?_
 clear hH; intro w hH
 have hS := hH
 refine any_l 18 ?_
 refine p0 hA 0 1 rfl (fun w => (q_move rfl)) fun a hA => ?_
 refine p0 hA 1 3 rfl (fun w => (q_nilCheck rfl)) fun a hA => ?_
 refine p0 hA 2 7 rfl (fun w => (q_fld 0 Tryz.underlying107 rfl rfl ti105 rfl)) fun a hA => ?_
 refine r0 hA 3 15 rfl hS (fun w hH => (q_loadB hH 0 rfl (List.mem_singleton.2 rfl) Tryz.underlying105 rfl rfl rfl)) fun a hA => ?_
 refine p0 hA 4 31 rfl (fun w => (q_fld 0 Tryz.underlying81 rfl rfl ti3 rfl)) fun a hA => ?_
 refine r0 hA 5 63 rfl hS (fun w hH => (q_loadB hH 1 rfl (List.mem_singleton.2 rfl) Tryz.underlying3 rfl rfl rfl)) fun a hA => ?_
 refine p0 hA 7 191 rfl (fun w => (q_move rfl)) fun a hA => ?_
 refine p0 hA 8 447 rfl (fun w => (q_nilCheck rfl)) fun a hA => ?_
 refine p0 hA 9 959 rfl (fun w => (q_fld 34 Tryz.underlying107 rfl rfl ti3 rfl)) fun a hA => ?_
 refine r0 hA 10 1983 rfl hS (fun w hH => (q_loadB hH 0 rfl (List.mem_singleton.2 rfl) Tryz.underlying3 rfl rfl (keyC_34 hPl))) fun a hA => ?_
 refine p0 hA 11 4031 rfl (fun w => (q_move rfl)) fun a hA => ?_
 refine a1 hA 6 4095 rfl (lo_callv (first := _) (cap := _) fn48 rfl rfl (seedf_any (hg.mono hH hgM) s hsd _ _ (hH.rd hSd))) ?_
 rintro _ w ⟨rfl, hC⟩
 replace hH := HS.call0 hH hC
 clear hC
 replace hS := hH.pick [0, 1, 2] (Hs' := [_, _, _]) rfl
 refine ⟨fun _ _ => hS, ?_⟩
 intro a hA
 refine a1 hA 12 8191 rfl (lo_call fn68 rfl (sign_any (hg.mono hH hgM) _ (by first | assumption | (rw [List.length_map]; assumption) | rfl | exact sha_length _ | (simp; done) | (simp [*]; done) | omega) _ hn5 _ _ (hH.rd hu) (by first | omega | (simp; done) | (simp; omega)))) ?_
 rintro _ w ⟨v_t41, N_t41, rfl, hO_t41, hC⟩
 replace hH := HS.call0 hH hC
 clear hC
 replace hS := hH.pick [1, 2, 3] (Hs' := [_, _, _]) rfl
 refine ⟨fun _ _ => hS, ?_⟩
 intro a hA
 refine p0 hA 13 16383 rfl (fun w => (q_move rfl)) fun a hA => ?_
 refine p0 hA 14 32767 rfl (fun w => (q_extract rfl rfl)) fun a hA => ?_
 refine p0 hA 15 65535 rfl (fun w => (q_extract rfl rfl)) fun a hA => ?_
 refine p0 hA 16 131071 rfl (fun w => (q_fld 1 Tryz.underlying81 rfl rfl ti69 rfl)) fun a hA => ?_
 replace hH := hH.pick [2, 0, 1, 3] (Hs' := [_, _, _, _]) rfl
 refine a0n hA 17 262143 rfl (lo_store1 hH ti69 rfl rfl ((show 1 < 3 by decide)) (Own.one hO_t41)) ?_
 clear hH; rintro _ w hH
 refine a_end (by kernel_rfl) ?_ _
 refine hK7 _ _ ?_
 clear hK7
 replace hA := hA.s4 6 5 4 0
 refine wp_seq_k fun K8 hK8 => ?_
 refine any_go mixed (fun j => !(Nat.beq j 6 || Nat.beq j 11)) hH ?_
 clear hH; intro w hH
 have hS := hH
 refine any_l 12 ?_
 refine p0 hA 0 1 rfl (fun w => (q_move rfl)) fun a hA => ?_
 refine p0 hA 1 3 rfl (fun w => (q_nilCheck rfl)) fun a hA => ?_
 refine p0 hA 2 7 rfl (fun w => (q_fld 1 Tryz.underlying107 rfl rfl ti69 rfl)) fun a hA => ?_
 refine r0 hA 3 15 rfl hS (fun w hH => (q_loadB hH 2 rfl (List.mem_singleton.2 rfl) Tryz.underlying69 rfl rfl rfl)) fun a hA => ?_
 refine p0 hA 4 31 rfl (fun w => (q_fld 0 Tryz.underlying81 rfl rfl ti3 rfl)) fun a hA => ?_
 refine r0 hA 5 63 rfl hS (fun w hH => (q_loadB hH 0 rfl (List.mem_singleton.2 rfl) Tryz.underlying3 rfl rfl rfl)) fun a hA => ?_
 refine a1n hA 6 127 rfl (lo_call fn69 rfl (path_any (hg.mono hH hgM) _ _ (leavesK_dg s n _) (hH.rd hLv) _ _ (show h ≤ 10 by omega) (leavesK_length s n _) (by omega))) ?_
 rintro _ w ⟨v_t52, N_t52, rfl, hO_t52, hC⟩
 replace hH := HS.call0 hH hC
 clear hC
 intro a hA
 refine p0 hA 7 255 rfl (fun w => (q_move rfl)) fun a hA => ?_
 refine p0 hA 8 511 rfl (fun w => (q_extract rfl rfl)) fun a hA => ?_
 refine p0 hA 9 1023 rfl (fun w => (q_extract rfl rfl)) fun a hA => ?_
 refine p0 hA 10 2047 rfl (fun w => (q_fld 2 Tryz.underlying81 rfl rfl ti69 rfl)) fun a hA => ?_
 replace hH := hH.pick [1, 0, 2, 3, 4] (Hs' := [_, _, _, _, _]) rfl
 refine a0n hA 11 4095 rfl (lo_store1 hH ti69 rfl rfl ((show 2 < 3 by decide)) (Own.one hO_t52)) ?_
 clear hH; rintro _ w hH
 refine a_end (by kernel_rfl) ?_ _
 refine hK8 _ _ ?_
 clear hK8
 replace hA := hA.s3 6 5 4
 refine wp_seq_k fun K9 hK9 => ?_
 refine wp_region_lit ?_
 refine sq hA (q_loadW hH 0 rfl Tryz.underlying81 rfl ti81 rfl (by first | omega | (simp; done) | (simp; omega) | (rw [List.length_map]; assumption) | assumption | rfl | (simp [*]; done) | (simp [*]; omega))) rfl fun a hA => ?_
 replace hH := hH.pick [4, 0, 1, 2, 3] (Hs' := [_, _, _, _, _]) rfl
 refine s0 hA (lo_storeAm hH ti81 rfl rfl (rfl) (rfl) (ones_cons rfl (ones_cons (Own.one hO_t41) (ones_cons (Own.one hO_t52) ones_nil)))) ?_
 clear hH; rintro _ w hH
 refine asg hA fun a hA => ?_
 refine wpList_nil ?_
 refine hK9 _ _ ?_
 clear hK9
 replace hA := hA.s2 5 4
 refine wp_ret ?_
 refine post_ret hA (res_c1 rfl hA rfl rfl (resW hH 0 rfl Tryz.underlying81 rfl ti81 (by first | assumption | (rw [List.length_map]; assumption) | rfl | exact sha_length _ | (simp; done) | (simp [*]; done) | omega))) ?_
 replace hH := hH.pick [4, 3, 2, 0, 1] (Hs' := [_, _, _, _, _]) rfl
 replace hH := hH.pick [0, 1, 2] (Hs' := [_, _, _]) rfl
 exact ⟨_, rfl, v_t41, v_t52, N_t41, N_t52, rfl, hO_t41, hO_t52, hH⟩

theorem keyC_set1 {f lv v : Value} {p : Bs} {n x : Int} : (keyC f lv p n x).set 1 v = keyC f v p n x := rfl
theorem new7_any {w0 : World} {lv : Nat} (hg : Gl lv w0) (s : Bs) (hsd : s.length = 32) (n h : Nat) (hn : R7 n h) :
    Calls Tryz.prog 20 #[(.agg ((s).map B8).toArray), I n, I h] w0 (Ret fun r w' => ∃ b_k b_s v_l N, r = .tuple #[.pointer (some ⟨b_k, 0, none⟩), I 0] ∧ OwD 25 v_l (leavesK s n (2 ^ h)) N ∧ HS [] w0 w' [[(b_k, Obj.cells (keyC (.func (.func 48) #[] #[.pointer (some ⟨b_s, 0, none⟩)]) v_l (pubK s n h) n 0).toArray 107 (0, 0))], [(b_s, Obj.cells (s.map B8).toArray 25 (0, 0))], N]) := by
 have hH := HS.start w0
 refine start (n := 60) (E := [(0, _), (1, _), (2, _)]) Tryz.func20 rfl rfl rfl (args_look rfl) ?_
 intro a hA
 have hn5 := hn.1
 have hn1 := hn.1.1
 have hn2 := hn.1.2
 have hh6 : h ≤ 6 := by have := hn.2.2; omega
 have h64 := pow_le64 hh6
 have hp0 : 0 < 2 ^ h := Nat.pow_pos (by decide)
 have hPl := pubK_length s n h
 have hz : (List.replicate 32 0#8).length = 32 := by simp
 refine wp_seq_k fun K1 hK1 => ?_
 refine wp_region_lit ?_
 refine sl hA (lo_boxA hH rfl) rfl ?_
 clear hH; rintro _ w ⟨b_t3, rfl, hH⟩ a hA
 refine asg hA fun a hA => ?_
 refine asg hA fun a hA => ?_
 refine wpList_nil ?_
 refine hK1 _ _ ?_
 clear hK1
 replace hA := hA.s5 7 6 3 1 2
 refine wp_seq_k fun K2 hK2 => ?_
 refine wp_seq_k fun K3 hK3 => ?_
 refine wp_region_lit ?_
 refine mv hA fun a hA => ?_
 refine mv hA fun a hA => ?_
 refine sl hA (lo_call fn47 rfl (right7_any _ _)) rfl ?_
 rintro _ w ⟨rfl, hC⟩ a hA
 replace hH := HS.call0 hH hC
 clear hC
 replace hA := hA.decT (by exact hn)
 refine sq hA (q_not rfl) rfl fun a hA => ?_
 refine wpList_nil ?_
 refine hK3 _ _ ?_
 clear hK3
 replace hA := hA.s6 15 7 6 3 1 2
 refine cond_f hA rfl ?_
 refine wp_skip ?_
 refine hK2 _ _ ?_
 clear hK2
 replace hA := hA.s5 7 6 3 1 2
 refine wp_seq_k fun K4 hK4 => ?_
 refine wp_region_lit ?_
 refine mv hA fun a hA => ?_
 refine sq hA (q_makeFunc rfl rfl) rfl fun a hA => ?_
 refine sq hA (q_buildC (css := [_, _]) (z := [Value.nilFunc, (Value.slice none 0 0)] ++ (List.replicate 32 0#8).map B8 ++ [(I 0), (I 0)]) (BT.mk (pl := [(0, 1), (1, 1), (2, 32), (34, 1), (35, 1)]) (it := Tryz.t107) (by kernel_rfl) Tryz.underlying107 (by kernel_rfl) (by kernel_rfl)) rfl ⟨rfl, ⟨_, rfl, by first | rfl | (simp [Value.cells]; done) | (simp [Value.cells, *]; done), by decide⟩, rfl, ⟨_, rfl, by first | rfl | (simp [Value.cells]; done) | (simp [Value.cells, *]; done), by decide⟩, trivial⟩) rfl fun a hA => ?_
 refine sl hA (lo_boxA hH rfl) rfl ?_
 clear hH; rintro _ w ⟨b_t19, rfl, hH⟩ a hA
 replace hH : HS _ _ _ ([(b_t19, Obj.cells (keyC (.func (.func 48) #[] #[.pointer (some ⟨b_t3, 0, none⟩)]) nilV (List.replicate 32 0#8) n 0).toArray 107 (0, 0))] :: _) := hH
 refine asg hA fun a hA => ?_
 refine wpList_nil ?_
 refine hK4 _ _ ?_
 clear hK4
 replace hA := hA.s5 8 7 6 1 2
 refine wp_seq_k fun K5 hK5 => ?_
 refine wp_seq_k fun K6 hK6 => ?_
 refine wp_region_lit ?_
 refine mv hA fun a hA => ?_
 refine sq hA (q_shlI (m := 1) (n := h) ((2 ^ h : Nat) : Int) rfl rfl (by omega) (by push_cast; rfl) (by omega)) rfl fun a hA => ?_
 rw [Int.one_mul] at hA
 refine mv hA fun a hA => ?_
 refine wpList_nil ?_
 refine hK6 _ _ ?_
 clear hK6
 replace hA := hA.s6 22 21 8 7 6 1
 refine wp_block ?_
 replace hH := hH.nilFront
 refine wp_loop_ghost (fun gm a w => ∃ i : Nat, ∃ v_o : Value, ∃ N_o : Hl, At 60 [(22, I i), (21, I ((2 ^ h : Nat) : Int)), (8, (.pointer (some ⟨b_t19, 0, none⟩))), (7, (I 0)), (1, (I n))] a ∧ HS [] w0 w ([N_o, [(b_t19, Obj.cells (keyC (.func (.func 48) #[] #[.pointer (some ⟨b_t3, 0, none⟩)]) v_o (List.replicate 32 0#8) n 0).toArray 107 (0, 0))], [(b_t3, Obj.cells ((s).map B8).toArray 25 (0, 0))]]) ∧ (i ≤ 2 ^ h) ∧ (OwD 25 v_o (leavesK s n i) N_o) ∧ gm = 2 ^ h - i) (2 ^ h - (0)) ⟨0, nilV, [], hA.sub ⟨rfl, rfl, rfl, rfl, rfl, trivial⟩, hH, by omega, by exact OwD.nil _, rfl⟩ ?_
 clear hA hH
 rintro gm a w ⟨i, v_o, N_o, hA, hH, hi, hO_o, rfl⟩
 refine wp_seq_k fun K7 hK7 => ?_
 refine wp_region_lit ?_
 refine sq hA (q_lssI rfl rfl) rfl fun a hA => ?_
 refine wpList_nil ?_
 refine hK7 _ _ ?_
 clear hK7
 refine wp_seq_k fun K8 hK8 => ?_
 refine cond_d hA rfl (fun hc23 => ?_) (fun hc23 => ?_)
 ·skip
  refine wp_skip ?_
  refine hK8 _ _ ?_
  clear hK8
  refine wp_seq_k fun K9 hK9 => ?_
  refine wp_block ?_
  refine wp_seq_k fun K10 hK10 => ?_
  refine wp_region_lit ?_
  refine mv hA fun a hA => ?_
  refine asg hA fun a hA => ?_
  refine wpList_nil ?_
  refine hK10 _ _ ?_
  clear hK10
  refine wp_seq_k fun K11 hK11 => ?_
  refine wp_region_lit ?_
  refine mv hA fun a hA => ?_
  refine sq hA (q_nilCheck rfl) rfl fun a hA => ?_
  refine sq hA (q_fld 0 Tryz.underlying107 rfl rfl ti105 rfl) rfl fun a hA => ?_
  refine sq hA (q_loadB hH 1 rfl (List.mem_singleton.2 rfl) Tryz.underlying105 rfl rfl rfl) rfl fun a hA => ?_
  refine mv hA fun a hA => ?_
  refine sl hA (lo_callv (first := _) (cap := _) fn48 rfl rfl (seedf_any (hg.mono0 hH) s hsd _ _ (HS.boxD hH 2 rfl (by first | assumption | (rw [List.length_map]; assumption) | rfl | exact sha_length _ | (simp; done) | (simp [*]; done) | omega)))) rfl ?_
  rintro _ w ⟨rfl, hC⟩ a hA
  replace hH := HS.call0 hH hC
  clear hC
  refine mv hA fun a hA => ?_
  refine sl hA (lo_call fn50 rfl (public_any (hg.mono0 hH) _ (by first | assumption | (rw [List.length_map]; assumption) | rfl | exact sha_length _ | (simp; done) | (simp [*]; done) | omega) _ hn5)) rfl ?_
  rintro _ w ⟨v_t33, N_t33, rfl, hO_t33, hC⟩ a hA
  replace hH := HS.call0 hH hC
  clear hC
  refine mv hA fun a hA => ?_
  refine sq hA (q_extract rfl rfl) rfl fun a hA => ?_
  refine sq hA (q_extract rfl rfl) rfl fun a hA => ?_
  refine asg hA fun a hA => ?_
  refine asg hA fun a hA => ?_
  refine wpList_nil ?_
  refine hK11 _ _ ?_
  clear hK11
  replace hA := hA.sub (E' := [(10, _), (35, _), (34, _), (25, _), (33, _), (32, _), (31, _), (30, _), (29, _), (28, _), (27, _), (26, _), (9, _), (24, _), (23, _), (22, _), (21, _), (8, _), (7, _), (1, _)]) ⟨rfl, rfl, rfl, rfl, rfl, rfl, rfl, rfl, rfl, rfl, rfl, rfl, rfl, rfl, rfl, rfl, rfl, rfl, rfl, rfl, trivial⟩
  refine any_go mixed (fun j => !(Nat.beq j 8 || Nat.beq j 11)) hH ?_
  clear hH; intro w hH
  have hS := hH
  refine any_l 12 ?_
  refine p0 hA 0 1 rfl (fun w => (q_move rfl)) fun a hA => ?_
  refine p0 hA 1 3 rfl (fun w => (q_move rfl)) fun a hA => ?_
  refine p0 hA 2 7 rfl (fun w => (q_nilCheck rfl)) fun a hA => ?_
  refine p0 hA 3 15 rfl (fun w => (q_fld 1 Tryz.underlying107 rfl rfl ti69 rfl)) fun a hA => ?_
  refine r0 hA 4 31 rfl hS (fun w hH => (q_loadB hH 2 rfl (List.mem_singleton.2 rfl) Tryz.underlying69 rfl rfl rfl)) fun a hA => ?_
  refine p0 hA 5 63 rfl (fun w => (q_move rfl)) fun a hA => ?_
  refine a1 hA 6 127 rfl (lo_call fn51 rfl (oroot_any (hg.mono0 hH) _ _ (by first | assumption | exact pubV_dg _ _) (Own.rd0 hO_t33 hH 0 rfl) (by first | omega | (simp; omega) | (rw [pubV_length]; omega)))) ?_
  rintro _ w ⟨rfl, hC⟩
  replace hH := HS.call0 hH hC
  clear hC
  replace hS := hH.pick [0, 1, 2, 3] (Hs' := [_, _, _, _]) rfl
  refine ⟨fun _ _ => hS, ?_⟩
  intro a hA
  refine a1 hA 7 255 rfl (lo_buildD (ls := [_]) hH Tryz.underlying69 ti25 rfl rfl rfl (by decide) (by decide) (by first | assumption | exact Dg.one (by first | assumption | (rw [List.length_map]; assumption) | rfl | exact sha_length _ | (simp; done) | (simp [*]; done) | omega) | exact Dg.two (by first | assumption | (rw [List.length_map]; assumption) | rfl | exact sha_length _ | (simp; done) | (simp [*]; done) | omega) (by first | assumption | (rw [List.length_map]; assumption) | rfl | exact sha_length _ | (simp; done) | (simp [*]; done) | omega))) ?_
  clear hH; rintro v_t43 w ⟨N_t43, hO_t43, hH⟩
  replace hS := hH.pick [1, 2, 3, 4] (Hs' := [_, _, _, _]) rfl
  refine ⟨fun _ _ => hS, ?_⟩
  intro a hA
  replace hH := hH.pick [2, 0, 1, 3, 4] (Hs' := [_, _, _, _, _]) rfl
  refine a1n hA 8 511 rfl (lo_appD hH Tryz.underlying69 Tryz.underlying69 (.inl rfl) ti25 rfl rfl rfl hO_o (Own.rd0 hO_t43 hH 1 rfl) (by first | omega | (simp; done) | (simp; omega)) (by first | omega | (simp; done) | (simp; omega))) ?_
  clear hH; rintro v_t44 w ⟨N_t44, hO_t44, hH⟩
  intro a hA
  refine p0 hA 9 1023 rfl (fun w => (q_nilCheck rfl)) fun a hA => ?_
  refine p0 hA 10 2047 rfl (fun w => (q_fld 1 Tryz.underlying107 rfl rfl ti69 rfl)) fun a hA => ?_
  replace hH := hH.pick [3, 0, 1, 2, 4] (Hs' := [_, _, _, _, _]) rfl
  refine a0n hA 11 4095 rfl (lo_store1 hH ti69 rfl rfl ((show 1 < 36 by decide)) (Own.one hO_t44)) ?_
  clear hH; rintro _ w hH
  rw [keyC_set1] at hH
  refine a_end (by kernel_rfl) ?_ _
  refine block_normal ?_
  refine hK9 _ _ ?_
  clear hK9
  refine wp_region_lit ?_
  refine sq hA (q_addI (n := 1) rfl rfl (by omega)) rfl fun a hA => ?_
  refine mv hA fun a hA => ?_
  refine wpList_nil ?_
  replace hH := hH.pick [1, 0, 4, 2, 3] (Hs' := [_, _, _, _, _]) rfl
  replace hH := hH.pick [0, 1, 2] (Hs' := [_, _, _]) rfl
  exact ⟨_, by omega, i + 1, v_t44, N_t44, hA.sub ⟨rfl, rfl, rfl, rfl, rfl, trivial⟩, hH, by omega, by (rw [leavesK_succ]; exact hO_t44), rfl⟩
 ·skip
  obtain rfl : i = 2 ^ h := by omega
  refine wp_exit ?_
  refine then_exit ?_
  refine then_exit ?_
  refine exit_here ?_
  refine hK5 _ _ ?_
  clear hK5
  replace hA := hA.s2 8 7
  refine wp_seq_k fun K12 hK12 => ?_
  refine wp_region_lit ?_
  refine mv hA fun a hA => ?_
  refine mv hA fun a hA => ?_
  refine sq hA (q_nilCheck rfl) rfl fun a hA => ?_
  refine sq hA (q_fld 1 Tryz.underlying107 rfl rfl ti69 rfl) rfl fun a hA => ?_
  refine sq hA (q_loadB hH 1 rfl (List.mem_singleton.2 rfl) Tryz.underlying69 rfl rfl rfl) rfl fun a hA => ?_
  refine sl hA (lo_call fn52 rfl (root_any (hg.mono0 hH) _ _ (leavesK_dg s n _) (Own.rd0 hO_o hH 0 rfl) h (show h ≤ 10 by omega) (leavesK_length s n _))) rfl ?_
  rintro _ w ⟨rfl, hC⟩ a hA
  replace hH := HS.call0 hH hC
  clear hC
  refine mv hA fun a hA => ?_
  refine sq hA (q_extract rfl rfl) rfl fun a hA => ?_
  refine sq hA (q_extract rfl rfl) rfl fun a hA => ?_
  refine sq hA (q_nilCheck rfl) rfl fun a hA => ?_
  refine sq hA (q_fld 2 Tryz.underlying107 rfl rfl ti25 rfl) rfl fun a hA => ?_
  replace hH := hH.pick [1, 0, 2] (Hs' := [_, _, _]) rfl
  refine s0 hA (lo_storeP hH ti25 rfl rfl (by first | (rw [keyC_length hz]; done) | (rw [keyC_length hz]; decide) | (rw [List.length_map]; exact hPl)) (by first | (rw [keyC_length hz]; done) | (rw [keyC_length hz]; decide) | (rw [List.length_map]; exact hPl)) (one_B8 _)) ?_
  clear hH; rintro _ w hH
  rw [show (lvls (leavesK s n (2 ^ h)) h).getD 0 [] = pubK s n h from rfl, keyC_put hz hPl] at hH
  refine wpList_nil ?_
  refine hK12 _ _ ?_
  clear hK12
  replace hA := hA.s2 8 7
  refine wp_seq_k fun K13 hK13 => ?_
  refine wp_region_lit ?_
  refine mv hA fun a hA => ?_
  refine asg hA fun a hA => ?_
  refine asg hA fun a hA => ?_
  refine wpList_nil ?_
  refine hK13 _ _ ?_
  clear hK13
  replace hA := hA.s2 7 6
  refine wp_ret ?_
  refine post_ret hA (res_2 rfl hA rfl rfl) ?_
  replace hH := hH.pick [0, 2, 1] (Hs' := [_, _, _]) rfl
  exact ⟨_, rfl, b_t19, b_t3, v_o, N_o, rfl, hO_o, hH⟩

end Go.Proofs.YtnnkgdijaekcfaaGreatDoor
