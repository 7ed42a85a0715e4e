/- Layer 22 (worker): what is heard; a new worker as one piece. -/
import Derived.Test.YtnnkgdijaekcfaaGreatDoorKh
import Derived.Test.YtnnkgdijaekcfaaGreatDoorKj
import Derived.Test.YtnnkgdijaekcfaaGreatDoorMzc
namespace Go.Proofs.YtnnkgdijaekcfaaGreatDoor
open Go
set_option linter.unusedVariables false
set_option linter.unusedSimpArgs false
set_option maxRecDepth 100000

theorem neww_w {w0 : World} {lv : Nat} (hg : Gl lv w0) (cs : List Int) (hcs : cs.length = 7) (hC : RightC cs) (s : Bs) (hsd : s.length = 32) (key : Bs) (hkey : key.length = 32) (n h : Nat) (hn3 : cs.getD 3 0 = n) (hn2 : cs.getD 2 0 = h) (hR : R7 n h) :
    Calls Tryz.prog 7 #[(.agg ((cs).map I).toArray), (.agg ((s).map B8).toArray), (.agg ((key).map B8).toArray)] w0 (Ret fun r w' => ∃ b_w N, r = .tuple #[.pointer (some ⟨b_w, 0, none⟩), I 0] ∧ WkM key s n h b_w 0 [] N ∧ HS [] w0 w' [N]) := by
  refine (neww_any hg cs hcs hC s hsd key hkey n h hn3 hn2 hR).mono fun e w' hr => ?_
  obtain ⟨r, h1, b_w, b_k, b_s, b_m, v_l, N, h2, hO, hH⟩ := hr
  have h7 := hH.nilFront.nilFront
  have h8 := HS.six (h7.pick [2, 3, 6, 4, 5, 0, 1] (Hs' := [_, _, _, _, _, _, _]) rfl)
  exact ⟨r, h1, b_w, _, h2, ⟨b_k, b_s, b_m, v_l, N, [], [], rfl, hO, ⟨rfl, rfl⟩, Nat.zero_le _, fun e he => by cases he⟩, h8.pick [0] (Hs' := [_]) rfl⟩
theorem encO_ge {key : Bs} {j a i : Int} {T P n : Bs} (h : (encO key j a i T P n).2 = 0) : 32 ≤ (encO key j a i T P n).1.length := by
  rw [encO_ok (encO_2 h)]
  have hm := macV_length key (bodyO j.toNat a.toNat i.toNat T P n)
  simp only [List.length_append]; omega
theorem long22_any {w0 : World} (v : Value) (hs : List Heard) (hr : RdHd [] w0 v hs) (hal : hs.length ≤ 1048576) :
    Calls Tryz.prog 5 #[v] w0 (Ret fun r w' => ∃ b, r = .bool (decide (b = true)) ∧ (b = false → hs.length ≤ 12) ∧ HS [] w0 w' []) := by
 have hH := HS.start w0
 refine start (n := 19) (E := [(0, _)]) Tryz.func5 rfl rfl rfl (args_look rfl) ?_
 intro a hA
 refine wp_seq_k fun K1 hK1 => ?_
 refine wp_region_lit ?_
 refine asg hA fun a hA => ?_
 refine wpList_nil ?_
 refine hK1 _ _ ?_
 clear hK1
 refine wp_seq_k fun K2 hK2 => ?_
 refine wp_seq_k fun K3 hK3 => ?_
 refine wp_region_lit ?_
 refine mv hA fun a hA => ?_
 refine sq hA (q_len Tryz.underlying26 rfl (Rd.shp hr.1)) rfl fun a hA => ?_
 refine sq hA (q_gtrI (n := 12) rfl rfl) rfl fun a hA => ?_
 refine wpList_nil ?_
 refine hK3 _ _ ?_
 clear hK3
 replace hA := hA.s3 6 2 0
 refine cond_d hA rfl (fun hc6 => ?_) (fun hc6 => ?_)
 ·skip
  refine wp_seq_k fun K4 hK4 => ?_
  refine wp_region_lit ?_
  refine asg hA fun a hA => ?_
  refine wpList_nil ?_
  refine hK4 _ _ ?_
  clear hK4
  replace hA := hA.s2 2 0
  refine wp_ret ?_
  refine then_ret ?_
  refine post_ret hA (res_1 rfl hA rfl) ?_
  first | exact ⟨_, rfl, false, rfl, fun _ => by omega, hH⟩ | exact ⟨_, rfl, true, rfl, (fun h => by cases h), hH⟩
 ·skip
  refine wp_skip ?_
  refine hK2 _ _ ?_
  clear hK2
  replace hA := hA.s2 2 0
  refine wp_seq_k fun K5 hK5 => ?_
  refine wp_seq_k fun K6 hK6 => ?_
  refine wp_region_lit ?_
  refine asg hA fun a hA => ?_
  refine wpList_nil ?_
  refine hK6 _ _ ?_
  clear hK6
  refine wp_block ?_
  refine wp_loop_ghost (fun gm a w => ∃ i : Nat, At 19 [(3, I i), (2, (.bool false)), (0, v)] a ∧ HS [] w0 w ([]) ∧ (i ≤ hs.length) ∧ gm = hs.length - i) (hs.length - (0)) ⟨0, hA.sub ⟨rfl, rfl, rfl, trivial⟩, hH, by omega, rfl⟩ ?_
  clear hA hH
  rintro gm a w ⟨i, hA, hH, hi, rfl⟩
  refine wp_seq_k fun K7 hK7 => ?_
  refine wp_seq_k fun K8 hK8 => ?_
  refine wp_region_lit ?_
  refine mv hA fun a hA => ?_
  refine mv hA fun a hA => ?_
  refine sq hA (q_len Tryz.underlying26 rfl (Rd.shp hr.1)) rfl fun a hA => ?_
  refine sq hA (q_lssI rfl rfl) rfl fun a hA => ?_
  refine wpList_nil ?_
  refine hK8 _ _ ?_
  clear hK8
  refine cond_d hA rfl (fun hc10 => ?_) (fun hc10 => ?_)
  ·skip
   obtain ⟨e, hem, hE39, hE37, hu, hx, hn, hb⟩ := hr.get (i := i) (by omega)
   refine wp_skip ?_
   refine hK7 _ _ ?_
   clear hK7
   refine wp_seq_k fun K9 hK9 => ?_
   refine wp_block ?_
   refine wp_seq_k fun K10 hK10 => ?_
   refine wp_region_lit ?_
   refine mv hA fun a hA => ?_
   refine mv hA fun a hA => ?_
   refine sq hA (q_idxk (i) Tryz.underlying26 ti47 rfl rfl (by first | omega | rfl) (Rd.shp hr.1) (by first | omega | (simp; done) | (simp; omega) | (rw [List.length_map]; assumption) | assumption | rfl | (simp [*]; done) | (simp [*]; omega))) rfl fun a hA => ?_
   refine sq hA (q_fldE 0 Tryz.underlying47 rfl rfl ti45 rfl) rfl fun a hA => ?_
   refine sq hA (q_loadRs Tryz.underlying45 rfl ti45 rfl (hH.rd hr.1) (by omega) _ hE37) rfl fun a hA => ?_
   refine sl hA (lo_call fn15 rfl (great22_any _ _ _ _ _ _ _ (hH.rd hu) (hH.rd hx) (by first | omega | (simp; done) | (simp; omega)) (by first | omega | (simp; done) | (simp; omega)) _ (by first | exact hkey | exact hnn | exact hDn | exact hn2 | (first | assumption | (rw [List.length_map]; assumption) | rfl | exact sha_length _ | (simp; done) | (simp [*]; done) | omega)))) rfl ?_
   rintro _ w ⟨rfl, hC⟩ a hA
   replace hH := HS.call0 hH hC
   clear hC
   refine wpList_nil ?_
   refine hK10 _ _ ?_
   clear hK10
   refine cond_d hA rfl (fun hc18 => ?_) (fun hc18 => ?_)
   ·skip
    refine wp_seq_k fun K11 hK11 => ?_
    refine wp_region_lit ?_
    refine asg hA fun a hA => ?_
    refine wpList_nil ?_
    refine hK11 _ _ ?_
    clear hK11
    refine wp_ret ?_
    refine block_ret ?_
    refine then_ret ?_
    refine then_ret ?_
    refine block_ret ?_
    refine then_ret ?_
    refine post_ret hA (res_1 rfl hA rfl) ?_
    first | exact ⟨_, rfl, false, rfl, fun _ => by omega, hH⟩ | exact ⟨_, rfl, true, rfl, (fun h => by cases h), hH⟩
   ·skip
    refine wp_skip ?_
    refine block_normal ?_
    refine hK9 _ _ ?_
    clear hK9
    refine wp_region_lit ?_
    refine mv hA fun a hA => ?_
    refine sq hA (q_addI (n := 1) rfl rfl (by omega)) rfl fun a hA => ?_
    refine asg hA fun a hA => ?_
    refine wpList_nil ?_
    exact ⟨_, by omega, i + 1, hA.sub ⟨rfl, rfl, rfl, trivial⟩, hH, by omega, rfl⟩
  ·skip
   refine wp_exit ?_
   refine then_exit ?_
   refine then_exit ?_
   refine exit_here ?_
   refine hK5 _ _ ?_
   clear hK5
   replace hA := hA.s1 2
   refine wp_seq_k fun K12 hK12 => ?_
   refine wp_region_lit ?_
   refine asg hA fun a hA => ?_
   refine wpList_nil ?_
   refine hK12 _ _ ?_
   clear hK12
   refine wp_ret ?_
   refine post_ret hA (res_1 rfl hA rfl) ?_
   first | exact ⟨_, rfl, false, rfl, fun _ => by omega, hH⟩ | exact ⟨_, rfl, true, rfl, (fun h => by cases h), hH⟩

theorem bytesOf_any {w0 : World} {lv : Nat} (hg : Gl (lv + 2) w0) (key : Bs) (hkey : key.length = 32) (e : Heard) (he : HdOk [] w0 e) :
    Calls Tryz.prog 11 #[(.agg ((key).map B8).toArray), (.agg (cellsH e).toArray)] w0 (Ret fun r w' => ∃ v' N l b, r = .tuple #[v', .bool (decide (b = true))] ∧ Ow B8 5 v' l N ∧ l.length ≤ 400 ∧ HS [] w0 w' [N]) := by
 have hH := HS.start w0
 refine start (n := 37) (E := [(0, _), (1, _)]) Tryz.func11 rfl rfl rfl (args_look rfl) ?_
 intro a hA
 obtain ⟨hu, hx, hn, hb⟩ := he
 have hcl := cellsH_length hn
 obtain ⟨E, hE⟩ : ∃ E, E = encO key e.j e.a e.i e.T e.L e.n := ⟨_, rfl⟩
 have hEl := encO_len key e.j e.a e.i e.T e.L hn
 rw [← hE] at hEl
 refine wp_seq_k fun K1 hK1 => ?_
 refine wp_region_lit ?_
 refine sl hA (lo_boxA hH rfl) rfl ?_
 clear hH; rintro _ w ⟨b_t2, rfl, hH⟩ a hA
 refine sl hA (lo_boxA hH rfl) rfl ?_
 clear hH; rintro _ w ⟨b_t3, rfl, hH⟩ a hA
 refine asg hA fun a hA => ?_
 refine asg hA fun a hA => ?_
 refine wpList_nil ?_
 refine hK1 _ _ ?_
 clear hK1
 replace hA := hA.s4 5 4 3 2
 refine wp_seq_k fun K2 hK2 => ?_
 refine wp_region_lit ?_
 refine sq hA (q_loadW hH 1 rfl Tryz.underlying25 rfl ti25 rfl (by first | omega | (simp; done) | (simp; omega) | (rw [List.length_map]; assumption) | assumption | rfl | (simp [*]; done) | (simp [*]; omega))) rfl fun a hA => ?_
 refine sq hA (q_fld 0 Tryz.underlying47 rfl rfl ti45 rfl) rfl fun a hA => ?_
 refine sq hA (q_loadBA hH 0 rfl (List.mem_singleton.2 rfl) Tryz.underlying45 rfl ti45 rfl _ (cellsH_ord hn) (ordC_length hn)) rfl fun a hA => ?_
 refine sl hA (lo_call fn25 rfl (refencw_g (hg.mono0 hH) _ (by first | exact hkey | exact hnn | exact hDn | exact hn2 | (first | assumption | (rw [List.length_map]; assumption) | rfl | exact sha_length _ | (simp; done) | (simp [*]; done) | omega)) _ _ _ _ _ _ _ (hH.rd hu) (hH.rd hx) (by first | omega | (simp; done) | (simp; omega)) (by first | omega | (simp; done) | (simp; omega)) _ (by first | exact hkey | exact hnn | exact hDn | exact hn2 | (first | assumption | (rw [List.length_map]; assumption) | rfl | exact sha_length _ | (simp; done) | (simp [*]; done) | omega)) hE)) rfl ?_
 rintro _ w ⟨v_t13, N_t13, rfl, hO_t13, hC⟩ a hA
 replace hH := HS.call0 hH hC
 clear hC
 refine mv hA fun a hA => ?_
 refine sq hA (q_extract rfl rfl) rfl fun a hA => ?_
 refine sq hA (q_extract rfl rfl) rfl fun a hA => ?_
 refine asg hA fun a hA => ?_
 refine asg hA fun a hA => ?_
 refine wpList_nil ?_
 refine hK2 _ _ ?_
 clear hK2
 replace hA := hA.s5 7 6 5 4 3
 refine wp_seq_k fun K3 hK3 => ?_
 refine wp_seq_k fun K4 hK4 => ?_
 refine wp_region_lit ?_
 refine mv hA fun a hA => ?_
 refine sq hA (q_neqI (n := 0) rfl rfl) rfl fun a hA => ?_
 refine wpList_nil ?_
 refine hK4 _ _ ?_
 clear hK4
 replace hA := hA.s5 17 6 5 4 3
 refine cond_d hA rfl (fun hc17 => ?_) (fun hc17 => ?_)
 ·skip
  refine wp_seq_k fun K5 hK5 => ?_
  refine wp_region_lit ?_
  refine asg hA fun a hA => ?_
  refine asg hA fun a hA => ?_
  refine wpList_nil ?_
  refine hK5 _ _ ?_
  clear hK5
  replace hA := hA.s4 5 4 6 3
  refine wp_ret ?_
  refine then_ret ?_
  refine post_ret hA (res_2 rfl hA rfl rfl) ?_
  replace hH := hH.pick [] (Hs' := []) rfl
  exact ⟨_, rfl, nilV, [], [], false, rfl, Ow.nil B8 _, Nat.zero_le _, hH.nilFront⟩
 ·skip
  have hE0 : E.2 = 0 := by omega
  have hge : 32 ≤ E.1.length := by rw [hE] at hE0 ⊢; exact encO_ge hE0
  have hlt : (BitVec.ofInt 64 (E.1.length : Int)).toNat = E.1.length := by rw [toNat_ofIntN (by omega)]; omega
  have hpt : (BitVec.ofInt 64 e.at_ % BitVec.ofInt 64 (E.1.length : Int)).toNat < E.1.length := by rw [BitVec.toNat_umod, hlt]; exact Nat.mod_lt _ (by omega)
  refine wp_skip ?_
  refine hK3 _ _ ?_
  clear hK3
  replace hA := hA.s4 6 5 4 3
  refine wp_seq_k fun K6 hK6 => ?_
  refine wp_region_lit ?_
  refine sq hA (q_fld 37 Tryz.underlying47 rfl rfl ti3 rfl) rfl fun a hA => ?_
  refine sq hA (q_loadB hH 1 rfl (List.mem_singleton.2 rfl) Tryz.underlying3 rfl rfl (cellsH_37 hn)) rfl fun a hA => ?_
  refine sq hA (q_cvI64 Tryz.underlying3 Tryz.underlying72 rfl) rfl fun a hA => ?_
  refine mv hA fun a hA => ?_
  refine sq hA (q_len Tryz.underlying41 rfl (Own.shp hO_t13)) rfl fun a hA => ?_
  refine sq hA (q_cvI64 Tryz.underlying3 Tryz.underlying72 rfl) rfl fun a hA => ?_
  refine sq hA (q_rem64 rfl rfl (by rw [hlt]; omega)) rfl fun a hA => ?_
  refine sq hA (q_cv64_I Tryz.underlying72 Tryz.underlying3 rfl (by omega)) rfl fun a hA => ?_
  refine asg hA fun a hA => ?_
  refine wpList_nil ?_
  refine hK6 _ _ ?_
  clear hK6
  replace hA := hA.s5 8 6 5 4 3
  refine wp_seq_k fun K7 hK7 => ?_
  refine any_go mixed (fun j => !(Nat.beq j 10)) hH ?_
  clear hH; intro w hH
  have hS := hH
  refine any_l 11 ?_
  refine p0 hA 0 1 rfl (fun w => (q_move rfl)) fun a hA => ?_
  refine p0 hA 1 3 rfl (fun w => (q_move rfl)) fun a hA => ?_
  refine p0 hA 2 7 rfl (fun w => (q_move rfl)) fun a hA => ?_
  refine p0 hA 3 15 rfl (fun w => (q_move rfl)) fun a hA => ?_
  refine p0 hA 4 31 rfl (fun w => (q_idx1 ((BitVec.ofInt 64 e.at_ % BitVec.ofInt 64 (E.1.length : Int)).toNat) Tryz.underlying41 ti5 rfl rfl (by first | omega | rfl) (Own.shp hO_t13) (by omega))) fun a hA => ?_
  refine r0 hA 5 63 rfl hS (fun w hH => (q_loadRm (0#8) Tryz.underlying5 rfl rfl (Own.rd0 hO_t13 hH 0 rfl) (by first | omega | (simp; done) | (simp; omega) | (rw [List.length_map]; assumption) | assumption | rfl | (simp [*]; done) | (simp [*]; omega)))) fun a hA => ?_
  refine p0 hA 6 127 rfl (fun w => (q_fld 38 Tryz.underlying47 rfl rfl ti5 rfl)) fun a hA => ?_
  refine r0 hA 7 255 rfl hS (fun w hH => (q_loadB hH 1 rfl (List.mem_singleton.2 rfl) Tryz.underlying5 rfl rfl (cellsH_38 hn))) fun a hA => ?_
  refine p0 hA 8 511 rfl (fun w => (q_xor8 rfl rfl)) fun a hA => ?_
  refine p0 hA 9 1023 rfl (fun w => (q_idx1 ((BitVec.ofInt 64 e.at_ % BitVec.ofInt 64 (E.1.length : Int)).toNat) Tryz.underlying41 ti5 rfl rfl (by first | omega | rfl) (Own.shp hO_t13) (by omega))) fun a hA => ?_
  refine a0n hA 10 2047 rfl (lo_storeO hH hO_t13 ti5 rfl rfl (by first | omega | (simp; done) | (simp; omega) | (rw [List.length_map]; assumption) | assumption | rfl | (simp [*]; done) | (simp [*]; omega)) rfl) ?_
  clear hH; rintro _ w ⟨N_t13, hO_t13, hH⟩
  refine a_end (by kernel_rfl) ?_ _
  refine hK7 _ _ ?_
  clear hK7
  replace hA := hA.s3 6 5 4
  refine wp_seq_k fun K8 hK8 => ?_
  refine wp_region_lit ?_
  refine mv hA fun a hA => ?_
  refine asg hA fun a hA => ?_
  refine asg hA fun a hA => ?_
  refine wpList_nil ?_
  refine hK8 _ _ ?_
  clear hK8
  replace hA := hA.s2 5 4
  refine wp_ret ?_
  refine post_ret hA (res_2 rfl hA rfl rfl) ?_
  replace hH := hH.pick [0] (Hs' := [_]) rfl
  exact ⟨_, rfl, v_t13, N_t13, _, true, rfl, hO_t13, by first | exact hEl | (rw [List.length_set]; exact hEl), hH⟩

end Go.Proofs.YtnnkgdijaekcfaaGreatDoor
