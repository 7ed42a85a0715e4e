/- Layer 4 (wire): what readers read. -/
import Derived.Test.YthhdilafnfcpbaaDoorEa
namespace Go.Proofs.YthhdilafnfcpbaaDoor
open Go
set_option linter.unusedVariables false
set_option linter.unusedSimpArgs false
set_option maxRecDepth 100000

theorem take_any {w0 : World} (b_r : Nat) (v : Value) (l : Bs) (k e : Nat) (hB : By [b_r] w0 v l) (hk : k ≤ l.length) (hl : l.length ≤ 1048576) (n : BitVec 64) (m : Nat) (hm : n.toNat = m) (hH : HS [b_r] w0 w0 [[(b_r, Obj.cells [v, I (k), I (e)].toArray 108 (0, 0))]]) :
    Calls Tryd.prog 73 #[(.pointer (some ⟨b_r, 0, none⟩)), U64 n] w0 (Ret fun r w' => ∃ v', r = .tuple #[v', .bool (decide (m ≤ l.length - k))] ∧ (∀ M w, By M w v l → By M w v' (takeL l k m)) ∧ HS [b_r] w0 w' [[(b_r, Obj.cells [v, I (takeA l k m), I (e)].toArray 108 (0, 0))]]) := by
 refine start (n := 43) (E := [(0, _), (1, _)]) Tryd.func73 rfl rfl rfl (args_look rfl) ?_
 intro a hA
 refine wp_seq_k fun K1 hK1 => ?_
 refine wp_region_lit ?_
 refine asg hA fun a hA => ?_
 refine asg hA fun a hA => ?_
 refine wpList_nil ?_
 refine hK1 _ _ ?_
 clear hK1
 refine wp_seq_k fun K2 hK2 => ?_
 refine wp_seq_k fun K3 hK3 => ?_
 refine any_go mixed (fun _ => true) hH ?_
 clear hH; intro w hH
 have hS := hH
 refine any_l 13 ?_
 refine p0 hA 0 1 rfl (fun w => (q_move rfl)) fun a hA => ?_
 refine p0 hA 1 3 rfl (fun w => (q_move rfl)) fun a hA => ?_
 refine p0 hA 2 7 rfl (fun w => (q_nilCheck rfl)) fun a hA => ?_
 refine p0 hA 3 15 rfl (fun w => (q_fld 0 Tryd.underlying108 rfl rfl ti32 rfl)) fun a hA => ?_
 refine r0 hA 4 31 rfl hS (fun w hH => (q_loadB hH 0 rfl (List.mem_singleton.2 rfl) Tryd.underlying32 rfl rfl rfl)) fun a hA => ?_
 refine p0 hA 5 63 rfl (fun w => (q_len Tryd.underlying32 rfl (Rd.shp hB))) fun a hA => ?_
 refine p0 hA 6 127 rfl (fun w => (q_move rfl)) fun a hA => ?_
 refine p0 hA 7 255 rfl (fun w => (q_nilCheck rfl)) fun a hA => ?_
 refine p0 hA 8 511 rfl (fun w => (q_fld 1 Tryd.underlying108 rfl rfl ti3 rfl)) fun a hA => ?_
 refine r0 hA 9 1023 rfl hS (fun w hH => (q_loadB hH 0 rfl (List.mem_singleton.2 rfl) Tryd.underlying3 rfl rfl rfl)) fun a hA => ?_
 refine p0 hA 10 2047 rfl (fun w => (q_subI rfl rfl (by omega))) fun a hA => ?_
 rw [show ((l.length : Int) - (k : Int)) = ((l.length - k : Nat) : Int) by omega] at hA
 refine p0 hA 11 4095 rfl (fun w => (q_cvI64 Tryd.underlying3 Tryd.underlying91 rfl)) fun a hA => ?_
 refine p0 hA 12 8191 rfl (fun w => (q_gtr64 rfl rfl)) fun a hA => ?_
 refine a_end (by kernel_rfl) ?_ _
 refine hK3 _ _ ?_
 clear hK3
 replace hA := hA.s5 19 5 4 0 1
 refine cond_d hA rfl (fun hc19 => ?_) (fun hc19 => ?_)
 ·skip
  rw [toNat_ofInt64 (by omega), hm] at hc19
  have hno : ¬ m ≤ l.length - k := by omega
  refine wp_seq_k fun K4 hK4 => ?_
  refine wp_region_lit ?_
  refine asg hA fun a hA => ?_
  refine asg hA fun a hA => ?_
  refine wpList_nil ?_
  refine hK4 _ _ ?_
  clear hK4
  replace hA := hA.s4 5 4 0 1
  refine wp_ret ?_
  refine then_ret ?_
  refine post_ret hA (res_2 rfl hA rfl rfl) ?_
  exact ⟨_, rfl, _, by rw [decide_eq_false hno], fun M w _ => by rw [takeL_no hno]; exact ⟨rfl, none, 0, rfl, Nat.le_refl _, fun _ => ⟨rfl, rfl⟩, fun _ h => by cases h⟩, by rw [takeA_no hno]; exact hH⟩
 ·skip
  rw [toNat_ofInt64 (by omega), hm] at hc19
  have hok : m ≤ l.length - k := by omega
  refine wp_skip ?_
  refine hK2 _ _ ?_
  clear hK2
  replace hA := hA.s4 5 4 0 1
  refine wp_seq_k fun K5 hK5 => ?_
  refine wp_region_lit ?_
  refine mv hA fun a hA => ?_
  refine sq hA (q_nilCheck rfl) rfl fun a hA => ?_
  refine sq hA (q_fld 1 Tryd.underlying108 rfl rfl ti3 rfl) rfl fun a hA => ?_
  refine sq hA (q_loadB hH 0 rfl (List.mem_singleton.2 rfl) Tryd.underlying3 rfl rfl rfl) rfl fun a hA => ?_
  refine asg hA fun a hA => ?_
  refine wpList_nil ?_
  refine hK5 _ _ ?_
  clear hK5
  replace hA := hA.s5 6 5 4 0 1
  refine wp_seq_k fun K6 hK6 => ?_
  refine wp_region_lit ?_
  refine mv hA fun a hA => ?_
  refine sq hA (q_nilCheck rfl) rfl fun a hA => ?_
  refine sq hA (q_fld 1 Tryd.underlying108 rfl rfl ti3 rfl) rfl fun a hA => ?_
  refine sq hA (q_loadB hH 0 rfl (List.mem_singleton.2 rfl) Tryd.underlying3 rfl rfl rfl) rfl fun a hA => ?_
  refine mv hA fun a hA => ?_
  refine sq hA (q_cv64_I Tryd.underlying91 Tryd.underlying3 rfl (by omega)) rfl fun a hA => ?_
  rw [hm] at hA
  refine sq hA (q_addI rfl rfl (by omega)) rfl fun a hA => ?_
  refine sq hA (q_nilCheck rfl) rfl fun a hA => ?_
  refine sq hA (q_fld 1 Tryd.underlying108 rfl rfl ti3 rfl) rfl fun a hA => ?_
  refine s0 hA (lo_store1 hH ti3 rfl rfl (by first | omega | (simp; done) | (simp; omega) | (rw [List.length_map]; assumption) | assumption | rfl | (simp [*]; done) | (simp [*]; omega)) rfl) ?_
  clear hH; rintro _ w hH
  refine wpList_nil ?_
  refine hK6 _ _ ?_
  clear hK6
  replace hA := hA.s4 6 5 4 0
  refine wp_seq_k fun K7 hK7 => ?_
  refine any_go mixed (fun _ => true) hH ?_
  clear hH; intro w hH
  have hS := hH
  refine any_l 12 ?_
  refine p0 hA 0 1 rfl (fun w => (q_move rfl)) fun a hA => ?_
  refine p0 hA 1 3 rfl (fun w => (q_nilCheck rfl)) fun a hA => ?_
  refine p0 hA 2 7 rfl (fun w => (q_fld 0 Tryd.underlying108 rfl rfl ti32 rfl)) fun a hA => ?_
  refine r0 hA 3 15 rfl hS (fun w hH => (q_loadB hH 0 rfl (List.mem_singleton.2 rfl) Tryd.underlying32 rfl rfl rfl)) fun a hA => ?_
  refine p0 hA 4 31 rfl (fun w => (q_move rfl)) fun a hA => ?_
  refine p0 hA 5 63 rfl (fun w => (q_move rfl)) fun a hA => ?_
  refine p0 hA 6 127 rfl (fun w => (q_nilCheck rfl)) fun a hA => ?_
  refine p0 hA 7 255 rfl (fun w => (q_fld 1 Tryd.underlying108 rfl rfl ti3 rfl)) fun a hA => ?_
  refine r0 hA 8 511 rfl hS (fun w hH => (q_loadB hH 0 rfl (List.mem_singleton.2 rfl) Tryd.underlying3 rfl rfl rfl)) fun a hA => ?_
  obtain ⟨v_t42, hv_t42, hP_t42⟩ := By.piece (Rd.shp hB) (k) (k + m) (by first | omega | (simp; omega) | (simp [*]; omega)) (by first | omega | (simp; omega) | (simp [*]; omega)) rfl
  refine p0 hA 9 1023 rfl (fun w => (q_slice Tryd.underlying32 ti5 rfl (k) (k + m) hv_t42 (Rd.shp hB) rfl rfl (rfl) (by omega) (by first | omega | (simp; omega) | (simp [*]; omega)) (by first | omega | (simp; omega) | (simp [*]; omega)))) fun a hA => ?_
  refine p0 hA 10 2047 rfl (fun w => (q_assign rfl)) fun a hA => ?_
  refine p0 hA 11 4095 rfl (fun w => (q_assign rfl)) fun a hA => ?_
  refine a_end (by kernel_rfl) ?_ _
  refine hK7 _ _ ?_
  clear hK7
  replace hA := hA.s2 5 4
  refine wp_ret ?_
  refine post_ret hA (res_2 rfl hA rfl rfl) ?_
  exact ⟨_, rfl, _, by rw [decide_eq_true hok], by rw [takeL_ok hok]; simpa using hP_t42, by rw [takeA_ok hok]; exact hH⟩

theorem left_any {w0 : World} (b_r : Nat) (v : Value) (l : Bs) (k e : Nat) (hB : By [b_r] w0 v l) (hk : k ≤ l.length) (hl : l.length ≤ 1048576) (hH : HS [b_r] w0 w0 [[(b_r, Obj.cells [v, I (k), I (e)].toArray 108 (0, 0))]]) :
    Calls Tryd.prog 54 #[(.pointer (some ⟨b_r, 0, none⟩))] w0 (Ret fun r w' => r = I ((l.drop k).length : Nat) ∧ HS [b_r] w0 w' [[(b_r, Obj.cells [v, I (k), I (e)].toArray 108 (0, 0))]]) := by
 refine start (n := 15) (E := [(0, _)]) Tryd.func54 rfl rfl rfl (args_look rfl) ?_
 intro a hA
 refine wp_seq_k fun K1 hK1 => ?_
 refine wp_region_lit ?_
 refine asg hA fun a hA => ?_
 refine wpList_nil ?_
 refine hK1 _ _ ?_
 clear hK1
 refine wp_seq_k fun K2 hK2 => ?_
 refine wp_seq_k fun K3 hK3 => ?_
 refine wp_region_lit ?_
 refine mv hA fun a hA => ?_
 refine sq hA (q_ptrNil Tryd.underlying89 rfl rfl) rfl fun a hA => ?_
 refine wpList_nil ?_
 refine hK3 _ _ ?_
 clear hK3
 replace hA := hA.s3 4 2 0
 refine cond_f hA rfl ?_
 refine wp_skip ?_
 refine hK2 _ _ ?_
 clear hK2
 replace hA := hA.s2 2 0
 refine wp_seq_k fun K4 hK4 => ?_
 refine any_go mixed (fun _ => true) hH ?_
 clear hH; intro w hH
 have hS := hH
 refine any_l 11 ?_
 refine p0 hA 0 1 rfl (fun w => (q_move rfl)) fun a hA => ?_
 refine p0 hA 1 3 rfl (fun w => (q_nilCheck rfl)) fun a hA => ?_
 refine p0 hA 2 7 rfl (fun w => (q_fld 0 Tryd.underlying108 rfl rfl ti32 rfl)) fun a hA => ?_
 refine r0 hA 3 15 rfl hS (fun w hH => (q_loadB hH 0 rfl (List.mem_singleton.2 rfl) Tryd.underlying32 rfl rfl rfl)) fun a hA => ?_
 refine p0 hA 4 31 rfl (fun w => (q_len Tryd.underlying32 rfl (Rd.shp hB))) fun a hA => ?_
 refine p0 hA 5 63 rfl (fun w => (q_move rfl)) fun a hA => ?_
 refine p0 hA 6 127 rfl (fun w => (q_nilCheck rfl)) fun a hA => ?_
 refine p0 hA 7 255 rfl (fun w => (q_fld 1 Tryd.underlying108 rfl rfl ti3 rfl)) fun a hA => ?_
 refine r0 hA 8 511 rfl hS (fun w hH => (q_loadB hH 0 rfl (List.mem_singleton.2 rfl) Tryd.underlying3 rfl rfl rfl)) fun a hA => ?_
 refine p0 hA 9 1023 rfl (fun w => (q_subI rfl rfl (by omega))) fun a hA => ?_
 refine p0 hA 10 2047 rfl (fun w => (q_assign rfl)) fun a hA => ?_
 refine a_end (by kernel_rfl) ?_ _
 refine hK4 _ _ ?_
 clear hK4
 replace hA := hA.s1 2
 refine wp_ret ?_
 refine post_ret hA (res_1 rfl hA rfl) ?_
 exact ⟨_, rfl, by rw [List.length_drop]; congr 1; omega, hH⟩

theorem err_any {w0 : World} (b_r : Nat) (v : Value) (l : Bs) (k e : Nat) (hB : By [b_r] w0 v l) (hk : k ≤ l.length) (hl : l.length ≤ 1048576) (hH : HS [b_r] w0 w0 [[(b_r, Obj.cells [v, I (k), I (e)].toArray 108 (0, 0))]]) :
    Calls Tryd.prog 55 #[(.pointer (some ⟨b_r, 0, none⟩))] w0 (Ret fun r w' => r = I e ∧ HS [b_r] w0 w' [[(b_r, Obj.cells [v, I (k), I (e)].toArray 108 (0, 0))]]) := by
 refine start (n := 9) (E := [(0, _)]) Tryd.func55 rfl rfl rfl (args_look rfl) ?_
 intro a hA
 refine wp_seq_k fun K1 hK1 => ?_
 refine wp_region_lit ?_
 refine asg hA fun a hA => ?_
 refine wpList_nil ?_
 refine hK1 _ _ ?_
 clear hK1
 refine wp_seq_k fun K2 hK2 => ?_
 refine wp_seq_k fun K3 hK3 => ?_
 refine wp_region_lit ?_
 refine mv hA fun a hA => ?_
 refine sq hA (q_ptrNil Tryd.underlying89 rfl rfl) rfl fun a hA => ?_
 refine wpList_nil ?_
 refine hK3 _ _ ?_
 clear hK3
 replace hA := hA.s3 4 2 0
 refine cond_f hA rfl ?_
 refine wp_skip ?_
 refine hK2 _ _ ?_
 clear hK2
 replace hA := hA.s2 2 0
 refine wp_seq_k fun K4 hK4 => ?_
 refine wp_region_lit ?_
 refine mv hA fun a hA => ?_
 refine sq hA (q_nilCheck rfl) rfl fun a hA => ?_
 refine sq hA (q_fld 2 Tryd.underlying108 rfl rfl ti28 rfl) rfl fun a hA => ?_
 refine sq hA (q_loadB hH 0 rfl (List.mem_singleton.2 rfl) Tryd.underlying28 rfl rfl rfl) rfl fun a hA => ?_
 refine asg hA fun a hA => ?_
 refine wpList_nil ?_
 refine hK4 _ _ ?_
 clear hK4
 replace hA := hA.s1 2
 refine wp_ret ?_
 refine post_ret hA (res_1 rfl hA rfl) ?_
 exact ⟨_, rfl, rfl, hH⟩

set_option maxHeartbeats 1000000 in
theorem rnum_any {w0 : World} (b_r : Nat) (v : Value) (l : Bs) (k e : Nat) (hB : By [b_r] w0 v l) (hk : k ≤ l.length) (hl : l.length ≤ 1048576) (most : BitVec 64) (m : Nat) (hm : most.toNat = m) (hH : HS [b_r] w0 w0 [[(b_r, Obj.cells [v, I (k), I (e)].toArray 108 (0, 0))]]) :
    Calls Tryd.prog 53 #[(.pointer (some ⟨b_r, 0, none⟩)), U64 most] w0 (Ret fun r w' => ∃ k', r = U64 (rNum m (l.drop k, e)).1 ∧ k' ≤ l.length ∧ l.drop k' = (rNum m (l.drop k, e)).2.1 ∧ HS [b_r] w0 w' [[(b_r, Obj.cells [v, I (k'), I ((rNum m (l.drop k, e)).2.2)].toArray 108 (0, 0))]]) := by
 refine start (n := 78) (E := [(0, _), (1, _)]) Tryd.func53 rfl rfl rfl (args_look rfl) ?_
 intro a hA
 refine wp_seq_k fun K1 hK1 => ?_
 refine wp_region_lit ?_
 refine asg hA fun a hA => ?_
 refine wpList_nil ?_
 refine hK1 _ _ ?_
 clear hK1
 refine wp_seq_k fun K2 hK2 => ?_
 refine wp_seq_k fun K3 hK3 => ?_
 refine wp_region_lit ?_
 refine mv hA fun a hA => ?_
 refine sl hA (lo_call fn71 rfl (off_any _ _ _ _ _ (HS.rdM (Ns1 := [_]) hH hB) (by omega) hl (HS.handed (Ns1 := [_]) hH))) rfl ?_
 rintro _ w ⟨rfl, hC⟩ a hA
 replace hH := HS.call (Ns1 := [_]) hH hC
 clear hC
 refine wpList_nil ?_
 refine hK3 _ _ ?_
 clear hK3
 replace hA := hA.s4 13 4 0 1
 refine cond_d hA rfl (fun hc13 => ?_) (fun hc13 => ?_)
 ·skip
  have hR := rNum_off (most := m) (X := l.drop k) hc13
  refine wp_seq_k fun K4 hK4 => ?_
  refine wp_region_lit ?_
  refine asg hA fun a hA => ?_
  refine wpList_nil ?_
  refine hK4 _ _ ?_
  clear hK4
  replace hA := hA.s3 4 0 1
  refine wp_ret ?_
  refine then_ret ?_
  refine post_ret hA (res_1 rfl hA rfl) ?_
  refine ⟨_, rfl, ?_⟩
  rw [hR]
  first | exact ⟨k, rfl, hk, rfl, hH⟩ | exact ⟨_, rfl, by omega, by rw [List.drop_drop]; congr 1; omega, hH⟩
 ·skip
  obtain rfl : e = 0 := by omega
  refine wp_skip ?_
  refine hK2 _ _ ?_
  clear hK2
  replace hA := hA.s3 4 0 1
  refine wp_seq_k fun K5 hK5 => ?_
  refine wp_region_lit ?_
  refine mv hA fun a hA => ?_
  refine sq hA (q_nilCheck rfl) rfl fun a hA => ?_
  refine sq hA (q_fld 1 Tryd.underlying108 rfl rfl ti3 rfl) rfl fun a hA => ?_
  refine sq hA (q_loadB hH 0 rfl (List.mem_singleton.2 rfl) Tryd.underlying3 rfl rfl rfl) rfl fun a hA => ?_
  refine mv hA fun a hA => ?_
  refine sq hA (q_makeFunc rfl rfl) rfl fun a hA => ?_
  refine asg hA fun a hA => ?_
  refine asg hA fun a hA => ?_
  refine wpList_nil ?_
  refine hK5 _ _ ?_
  clear hK5
  replace hA := hA.s5 6 5 4 0 1
  refine wp_seq_k fun K6 hK6 => ?_
  refine wp_region_lit ?_
  refine mv hA fun a hA => ?_
  refine sl hA (lo_call fn73 rfl (take_any _ _ _ _ _ (HS.rdM (Ns1 := [_]) hH hB) (by omega) hl 1#64 1 (by decide) (HS.handed (Ns1 := [_]) hH))) rfl ?_
  rintro _ w ⟨v_t22, rfl, hT_t22, hC⟩ a hA
  replace hH := HS.call (Ns1 := [_]) hH hC
  clear hC
  refine mv hA fun a hA => ?_
  refine sq hA (q_extract rfl rfl) rfl fun a hA => ?_
  refine sq hA (q_extract rfl rfl) rfl fun a hA => ?_
  refine hA.spl (fun hs24 hA => ?_) (fun hs24 hA => ?_)
  ·skip
   have eL := takeL_ok (l := l) (k := k) (n := 1) hs24
   have eA := takeA_ok (l := l) (k := k) (n := 1) hs24
   rw [eA] at hH
   simp only [eL] at hT_t22
   have hX0 : ¬ (l.drop k).length = 0 := by rw [List.length_drop]; omega
   have hkl : k + 1 ≤ l.length := by omega
   refine asg hA fun a hA => ?_
   refine asg hA fun a hA => ?_
   refine wpList_nil ?_
   refine hK6 _ _ ?_
   clear hK6
   replace hA := hA.s7 8 7 6 5 4 0 1
   refine wp_seq_k fun K7 hK7 => ?_
   refine wp_seq_k fun K8 hK8 => ?_
   refine wp_region_lit ?_
   refine mv hA fun a hA => ?_
   refine sq hA (q_not rfl) rfl fun a hA => ?_
   refine wpList_nil ?_
   refine hK8 _ _ ?_
   clear hK8
   replace hA := hA.s8 26 8 7 6 5 4 0 1
   refine cond_f hA rfl ?_
   refine wp_skip ?_
   refine hK7 _ _ ?_
   clear hK7
   replace hA := hA.s7 8 7 6 5 4 0 1
   refine wp_seq_k fun K9 hK9 => ?_
   refine wp_seq_k fun K10 hK10 => ?_
   refine wp_region_lit ?_
   refine mv hA fun a hA => ?_
   refine sq hA (q_idx1 (0) Tryd.underlying32 ti5 rfl rfl (rfl) (Rd.shp (hT_t22 _ _ hB)) (by first | omega | (simp; done) | (simp; omega) | (rw [List.length_map]; assumption) | assumption | rfl | (simp [*]; done) | (simp [*]; omega))) rfl fun a hA => ?_
   refine sq hA (q_loadRm (0#8) Tryd.underlying5 rfl rfl (hH.rd (hT_t22 _ _ hB)) (by first | omega | (simp; done) | (simp; omega) | (rw [List.length_map]; assumption) | assumption | rfl | (simp [*]; done) | (simp [*]; omega))) rfl fun a hA => ?_
   rw [take1_at] at hA
   refine sq hA (q_gtr8 (q := 8#8) rfl rfl) rfl fun a hA => ?_
   refine wpList_nil ?_
   refine hK10 _ _ ?_
   clear hK10
   replace hA := hA.s8 33 8 7 6 5 4 0 1
   refine cond_d hA rfl (fun hc33 => ?_) (fun hc33 => ?_)
   ·skip
    have hR := rNum_err (nE_1 (most := m) hX0 hc33) (by decide)
    refine wp_seq_k fun K11 hK11 => ?_
    refine wp_region_lit ?_
    refine mv hA fun a hA => ?_
    refine mv hA fun a hA => ?_
    refine sl hA (lo_callv (first := _) (cap := _) fn72 rfl rfl (fails_any _ _ _ _ _ (HS.rdM (Ns1 := [_]) hH hB) (by omega) hl _ _ (HS.handed (Ns1 := [_]) hH))) rfl ?_
    rintro _ w ⟨rfl, hC⟩ a hA
    replace hH := HS.call (Ns1 := [_]) hH hC
    clear hC
    refine wpList_nil ?_
    refine hK11 _ _ ?_
    clear hK11
    replace hA := hA.s7 8 7 6 5 4 0 1
    refine wp_seq_k fun K12 hK12 => ?_
    refine wp_region_lit ?_
    refine asg hA fun a hA => ?_
    refine wpList_nil ?_
    refine hK12 _ _ ?_
    clear hK12
    refine wp_ret ?_
    refine then_ret ?_
    refine post_ret hA (res_1 rfl hA rfl) ?_
    refine ⟨_, rfl, ?_⟩
    rw [hR]
    first | exact ⟨k, rfl, hk, rfl, hH⟩ | exact ⟨_, rfl, by omega, by rw [List.drop_drop]; congr 1; omega, hH⟩
   ·skip
    have hw8 : nW (l.drop k) ≤ 8 := Nat.le_of_not_lt hc33
    refine wp_skip ?_
    refine hK9 _ _ ?_
    clear hK9
    replace hA := hA.s7 8 7 6 5 4 0 1
    refine wp_seq_k fun K13 hK13 => ?_
    refine wp_region_lit ?_
    refine mv hA fun a hA => ?_
    refine mv hA fun a hA => ?_
    refine sq hA (q_idx1 (0) Tryd.underlying32 ti5 rfl rfl (rfl) (Rd.shp (hT_t22 _ _ hB)) (by first | omega | (simp; done) | (simp; omega) | (rw [List.length_map]; assumption) | assumption | rfl | (simp [*]; done) | (simp [*]; omega))) rfl fun a hA => ?_
    refine sq hA (q_loadRm (0#8) Tryd.underlying5 rfl rfl (hH.rd (hT_t22 _ _ hB)) (by first | omega | (simp; done) | (simp; omega) | (rw [List.length_map]; assumption) | assumption | rfl | (simp [*]; done) | (simp [*]; omega))) rfl fun a hA => ?_
    rw [take1_at] at hA
    refine sq hA (q_cv8_64 Tryd.underlying5 Tryd.underlying91 rfl) rfl fun a hA => ?_
    refine sl hA (lo_call fn73 rfl (take_any _ _ _ _ _ (HS.rdM (Ns1 := [_]) hH hB) (by omega) hl _ (nW (l.drop k)) (sw64 _) (HS.handed (Ns1 := [_]) hH))) rfl ?_
    rintro _ w ⟨v_t43, rfl, hT_t43, hC⟩ a hA
    replace hH := HS.call (Ns1 := [_]) hH hC
    clear hC
    refine mv hA fun a hA => ?_
    refine sq hA (q_extract rfl rfl) rfl fun a hA => ?_
    refine sq hA (q_extract rfl rfl) rfl fun a hA => ?_
    refine hA.spl (fun hs45 hA => ?_) (fun hs45 hA => ?_)
    ·skip
     have eL2 : takeL l (k + 1) (nW (l.drop k)) = ((l.drop k).drop 1).take (nW (l.drop k)) := by rw [takeL_ok hs45, List.drop_drop]
     have eA2 := takeA_ok (l := l) (k := k + 1) (n := nW (l.drop k)) hs45
     rw [eA2] at hH
     simp only [eL2] at hT_t43
     have hN2 : ¬ (l.drop k).length - 1 < nW (l.drop k) := by rw [List.length_drop]; omega
     have hl43 : (((l.drop k).drop 1).take (nW (l.drop k))).length = nW (l.drop k) := by rw [List.length_take, List.length_drop, List.length_drop]; omega
     refine asg hA fun a hA => ?_
     refine asg hA fun a hA => ?_
     refine wpList_nil ?_
     refine hK13 _ _ ?_
     clear hK13
     replace hA := hA.s6 8 9 6 5 4 1
     refine wp_seq_k fun K14 hK14 => ?_
     refine wp_region_lit ?_
     refine mv hA fun a hA => ?_
     refine sl hA (lo_call fn74 rfl (number_any _ _ (hH.rd (hT_t43 _ _ hB)) (by first | omega | (simp; done) | (simp; omega)))) rfl ?_
     rintro _ w ⟨rfl, hC⟩ a hA
     replace hH := HS.call0 hH hC
     clear hC
     refine mv hA fun a hA => ?_
     refine sq hA (q_extract rfl rfl) rfl fun a hA => ?_
     refine sq hA (q_extract rfl rfl) rfl fun a hA => ?_
     refine asg hA fun a hA => ?_
     refine asg hA fun a hA => ?_
     refine wpList_nil ?_
     refine hK14 _ _ ?_
     clear hK14
     replace hA := hA.s7 10 8 9 6 5 4 1
     refine wp_seq_k fun K15 hK15 => ?_
     refine wp_block ?_
     refine wp_seq_k fun K16 hK16 => ?_
     refine wp_region_lit ?_
     refine mv hA fun a hA => ?_
     refine sq hA (q_not rfl) rfl fun a hA => ?_
     refine asg hA fun a hA => ?_
     refine wpList_nil ?_
     refine hK16 _ _ ?_
     clear hK16
     replace hA := hA.s7 52 10 9 6 5 4 1
     refine cond_f hA rfl ?_
     refine wp_seq_k fun K17 hK17 => ?_
     refine wp_region_lit ?_
     refine mv hA fun a hA => ?_
     refine sq hA (q_len Tryd.underlying32 rfl (Rd.shp (hT_t43 _ _ hB))) rfl fun a hA => ?_
     refine sq hA (q_gtrI (n := 0) rfl rfl) rfl fun a hA => ?_
     refine hA.spl (fun hs61 hA => ?_) (fun hs61 hA => ?_)
     ·skip
      refine mv hA fun a hA => ?_
      refine gq hA rfl rfl (q_move rfl) rfl fun a hA => ?_
      refine gq hA rfl rfl (q_idx1 (0) Tryd.underlying32 ti5 rfl rfl (rfl) (Rd.shp (hT_t43 _ _ hB)) (by first | omega | (simp; done) | (simp; omega) | (rw [List.length_map]; assumption) | assumption | rfl | (simp [*]; done) | (simp [*]; omega))) rfl fun a hA => ?_
      refine gq hA rfl rfl (q_loadRm (0#8) Tryd.underlying5 rfl rfl (hH.rd (hT_t43 _ _ hB)) (by first | omega | (simp; done) | (simp; omega) | (rw [List.length_map]; assumption) | assumption | rfl | (simp [*]; done) | (simp [*]; omega))) rfl fun a hA => ?_
      rw [takeD_at (by omega)] at hA
      refine gq hA rfl rfl (q_eql8 (q := 0#8) rfl rfl) rfl fun a hA => ?_
      refine sq hA (q_pick_t rfl rfl) rfl fun a hA => ?_
      refine asg hA fun a hA => ?_
      refine wpList_nil ?_
      refine hK17 _ _ ?_
      clear hK17
      replace hA := hA.s6 58 10 6 5 4 1
      refine cond_d hA rfl (fun hc58 => ?_) (fun hc58 => ?_)
      ·skip
       have hR := rNum_err (nE_3 (most := m) hX0 (by omega) hN2 ⟨by omega, hc58⟩) (by decide)
       refine wp_region_lit ?_
       refine mv hA fun a hA => ?_
       refine mv hA fun a hA => ?_
       refine sl hA (lo_callv (first := _) (cap := _) fn72 rfl rfl (fails_any _ _ _ _ _ (HS.rdM (Ns1 := [_]) hH hB) (by omega) hl _ _ (HS.handed (Ns1 := [_]) hH))) rfl ?_
       rintro _ w ⟨rfl, hC⟩ a hA
       replace hH := HS.call (Ns1 := [_]) hH hC
       clear hC
       refine wpList_nil ?_
       refine block_normal ?_
       refine hK15 _ _ ?_
       clear hK15
       replace hA := hA.s1 4
       refine wp_seq_k fun K18 hK18 => ?_
       refine wp_region_lit ?_
       refine asg hA fun a hA => ?_
       refine wpList_nil ?_
       refine hK18 _ _ ?_
       clear hK18
       refine wp_ret ?_
       refine post_ret hA (res_1 rfl hA rfl) ?_
       refine ⟨_, rfl, ?_⟩
       rw [hR]
       first | exact ⟨k, rfl, hk, rfl, hH⟩ | exact ⟨_, rfl, by omega, by rw [List.drop_drop]; congr 1; omega, hH⟩
      ·skip
       have hN3 : ¬ (0 < nW (l.drop k) ∧ (l.drop k).getD 1 0#8 = 0#8) := fun h => hc58 h.2
       refine wp_seq_k fun K19 hK19 => ?_
       refine wp_region_lit ?_
       refine mv hA fun a hA => ?_
       refine mv hA fun a hA => ?_
       refine sq hA (q_gtr64 rfl rfl) rfl fun a hA => ?_
       refine asg hA fun a hA => ?_
       refine wpList_nil ?_
       refine hK19 _ _ ?_
       clear hK19
       replace hA := hA.s5 71 10 6 5 4
       refine cond_d hA rfl (fun hc71 => ?_) (fun hc71 => ?_)
       ·skip
        rw [hm] at hc71
        have hR := rNum_err (nE_4 (most := m) hX0 (by omega) hN2 hN3 hc71) (by decide)
        refine wp_region_lit ?_
        refine mv hA fun a hA => ?_
        refine mv hA fun a hA => ?_
        refine sl hA (lo_callv (first := _) (cap := _) fn72 rfl rfl (fails_any _ _ _ _ _ (HS.rdM (Ns1 := [_]) hH hB) (by omega) hl _ _ (HS.handed (Ns1 := [_]) hH))) rfl ?_
        rintro _ w ⟨rfl, hC⟩ a hA
        replace hH := HS.call (Ns1 := [_]) hH hC
        clear hC
        refine wpList_nil ?_
        refine block_normal ?_
        refine hK15 _ _ ?_
        clear hK15
        replace hA := hA.s1 4
        refine wp_seq_k fun K20 hK20 => ?_
        refine wp_region_lit ?_
        refine asg hA fun a hA => ?_
        refine wpList_nil ?_
        refine hK20 _ _ ?_
        clear hK20
        refine wp_ret ?_
        refine post_ret hA (res_1 rfl hA rfl) ?_
        refine ⟨_, rfl, ?_⟩
        rw [hR]
        first | exact ⟨k, rfl, hk, rfl, hH⟩ | exact ⟨_, rfl, by omega, by rw [List.drop_drop]; congr 1; omega, hH⟩
       ·skip
        rw [hm] at hc71
        have hR := rNum_ok (nE_5 (most := m) hX0 (by omega) hN2 hN3 hc71)
        refine wp_seq_k fun K21 hK21 => ?_
        refine wp_region_lit ?_
        refine mv hA fun a hA => ?_
        refine asg hA fun a hA => ?_
        refine wpList_nil ?_
        refine hK21 _ _ ?_
        clear hK21
        replace hA := hA.s1 4
        refine wp_ret ?_
        refine block_ret ?_
        refine then_ret ?_
        refine post_ret hA (res_1 rfl hA rfl) ?_
        refine ⟨_, rfl, ?_⟩
        rw [hR]
        first | exact ⟨k, rfl, hk, rfl, hH⟩ | exact ⟨_, rfl, by omega, by rw [List.drop_drop]; congr 1; omega, hH⟩
     ·skip
      have hN3 : ¬ (0 < nW (l.drop k) ∧ (l.drop k).getD 1 0#8 = 0#8) := fun h => by have := h.1; omega
      refine mv hA fun a hA => ?_
      refine gs hA rfl rfl rfl rfl fun a hA => ?_
      refine gs hA rfl rfl rfl rfl fun a hA => ?_
      refine gs hA rfl rfl rfl rfl fun a hA => ?_
      refine gs hA rfl rfl rfl rfl fun a hA => ?_
      refine sq hA (q_pick_f rfl rfl) rfl fun a hA => ?_
      refine asg hA fun a hA => ?_
      refine wpList_nil ?_
      refine hK17 _ _ ?_
      clear hK17
      replace hA := hA.s6 58 10 6 5 4 1
      refine cond_f hA rfl ?_
      refine wp_seq_k fun K22 hK22 => ?_
      refine wp_region_lit ?_
      refine mv hA fun a hA => ?_
      refine mv hA fun a hA => ?_
      refine sq hA (q_gtr64 rfl rfl) rfl fun a hA => ?_
      refine asg hA fun a hA => ?_
      refine wpList_nil ?_
      refine hK22 _ _ ?_
      clear hK22
      replace hA := hA.s5 71 10 6 5 4
      refine cond_d hA rfl (fun hc71 => ?_) (fun hc71 => ?_)
      ·skip
       rw [hm] at hc71
       have hR := rNum_err (nE_4 (most := m) hX0 (by omega) hN2 hN3 hc71) (by decide)
       refine wp_region_lit ?_
       refine mv hA fun a hA => ?_
       refine mv hA fun a hA => ?_
       refine sl hA (lo_callv (first := _) (cap := _) fn72 rfl rfl (fails_any _ _ _ _ _ (HS.rdM (Ns1 := [_]) hH hB) (by omega) hl _ _ (HS.handed (Ns1 := [_]) hH))) rfl ?_
       rintro _ w ⟨rfl, hC⟩ a hA
       replace hH := HS.call (Ns1 := [_]) hH hC
       clear hC
       refine wpList_nil ?_
       refine block_normal ?_
       refine hK15 _ _ ?_
       clear hK15
       replace hA := hA.s1 4
       refine wp_seq_k fun K23 hK23 => ?_
       refine wp_region_lit ?_
       refine asg hA fun a hA => ?_
       refine wpList_nil ?_
       refine hK23 _ _ ?_
       clear hK23
       refine wp_ret ?_
       refine post_ret hA (res_1 rfl hA rfl) ?_
       refine ⟨_, rfl, ?_⟩
       rw [hR]
       first | exact ⟨k, rfl, hk, rfl, hH⟩ | exact ⟨_, rfl, by omega, by rw [List.drop_drop]; congr 1; omega, hH⟩
      ·skip
       rw [hm] at hc71
       have hR := rNum_ok (nE_5 (most := m) hX0 (by omega) hN2 hN3 hc71)
       refine wp_seq_k fun K24 hK24 => ?_
       refine wp_region_lit ?_
       refine mv hA fun a hA => ?_
       refine asg hA fun a hA => ?_
       refine wpList_nil ?_
       refine hK24 _ _ ?_
       clear hK24
       replace hA := hA.s1 4
       refine wp_ret ?_
       refine block_ret ?_
       refine then_ret ?_
       refine post_ret hA (res_1 rfl hA rfl) ?_
       refine ⟨_, rfl, ?_⟩
       rw [hR]
       first | exact ⟨k, rfl, hk, rfl, hH⟩ | exact ⟨_, rfl, by omega, by rw [List.drop_drop]; congr 1; omega, hH⟩
    ·skip
     have eL2 := takeL_no (l := l) (k := k + 1) (n := nW (l.drop k)) hs45
     have eA2 := takeA_no (l := l) (k := k + 1) (n := nW (l.drop k)) hs45
     rw [eA2] at hH
     simp only [eL2] at hT_t43
     have hN2 : (l.drop k).length - 1 < nW (l.drop k) := by rw [List.length_drop]; omega
     have hR := rNum_err (nE_2 (most := m) hX0 (by omega) hN2) (by decide)
     refine asg hA fun a hA => ?_
     refine asg hA fun a hA => ?_
     refine wpList_nil ?_
     refine hK13 _ _ ?_
     clear hK13
     replace hA := hA.s6 8 9 6 5 4 1
     refine wp_seq_k fun K25 hK25 => ?_
     refine wp_region_lit ?_
     refine mv hA fun a hA => ?_
     refine sl hA (lo_call fn74 rfl (number_any _ _ (hH.rd (hT_t43 _ _ hB)) (by first | omega | (simp; done) | (simp; omega)))) rfl ?_
     rintro _ w ⟨rfl, hC⟩ a hA
     replace hH := HS.call0 hH hC
     clear hC
     refine mv hA fun a hA => ?_
     refine sq hA (q_extract rfl rfl) rfl fun a hA => ?_
     refine sq hA (q_extract rfl rfl) rfl fun a hA => ?_
     refine asg hA fun a hA => ?_
     refine asg hA fun a hA => ?_
     refine wpList_nil ?_
     refine hK25 _ _ ?_
     clear hK25
     replace hA := hA.s7 10 8 9 6 5 4 1
     refine wp_seq_k fun K26 hK26 => ?_
     refine wp_block ?_
     refine wp_seq_k fun K27 hK27 => ?_
     refine wp_region_lit ?_
     refine mv hA fun a hA => ?_
     refine sq hA (q_not rfl) rfl fun a hA => ?_
     refine asg hA fun a hA => ?_
     refine wpList_nil ?_
     refine hK27 _ _ ?_
     clear hK27
     replace hA := hA.s7 52 10 9 6 5 4 1
     refine cond_t hA rfl ?_
     refine wp_region_lit ?_
     refine mv hA fun a hA => ?_
     refine mv hA fun a hA => ?_
     refine sl hA (lo_callv (first := _) (cap := _) fn72 rfl rfl (fails_any _ _ _ _ _ (HS.rdM (Ns1 := [_]) hH hB) (by omega) hl _ _ (HS.handed (Ns1 := [_]) hH))) rfl ?_
     rintro _ w ⟨rfl, hC⟩ a hA
     replace hH := HS.call (Ns1 := [_]) hH hC
     clear hC
     refine wpList_nil ?_
     refine block_normal ?_
     refine hK26 _ _ ?_
     clear hK26
     replace hA := hA.s1 4
     refine wp_seq_k fun K28 hK28 => ?_
     refine wp_region_lit ?_
     refine asg hA fun a hA => ?_
     refine wpList_nil ?_
     refine hK28 _ _ ?_
     clear hK28
     refine wp_ret ?_
     refine post_ret hA (res_1 rfl hA rfl) ?_
     refine ⟨_, rfl, ?_⟩
     rw [hR]
     first | exact ⟨k, rfl, hk, rfl, hH⟩ | exact ⟨_, rfl, by omega, by rw [List.drop_drop]; congr 1; omega, hH⟩
  ·skip
   have eA := takeA_no (l := l) (k := k) (n := 1) hs24
   rw [eA] at hH
   have hR := rNum_err (nE_0 (most := m) (X := l.drop k) (by rw [List.length_drop]; omega)) (by decide)
   refine asg hA fun a hA => ?_
   refine asg hA fun a hA => ?_
   refine wpList_nil ?_
   refine hK6 _ _ ?_
   clear hK6
   replace hA := hA.s7 8 7 6 5 4 0 1
   refine wp_seq_k fun K29 hK29 => ?_
   refine wp_seq_k fun K30 hK30 => ?_
   refine wp_region_lit ?_
   refine mv hA fun a hA => ?_
   refine sq hA (q_not rfl) rfl fun a hA => ?_
   refine wpList_nil ?_
   refine hK30 _ _ ?_
   clear hK30
   replace hA := hA.s8 26 8 7 6 5 4 0 1
   refine cond_t hA rfl ?_
   refine wp_seq_k fun K31 hK31 => ?_
   refine wp_region_lit ?_
   refine mv hA fun a hA => ?_
   refine mv hA fun a hA => ?_
   refine sl hA (lo_callv (first := _) (cap := _) fn72 rfl rfl (fails_any _ _ _ _ _ (HS.rdM (Ns1 := [_]) hH hB) (by omega) hl _ _ (HS.handed (Ns1 := [_]) hH))) rfl ?_
   rintro _ w ⟨rfl, hC⟩ a hA
   replace hH := HS.call (Ns1 := [_]) hH hC
   clear hC
   refine wpList_nil ?_
   refine hK31 _ _ ?_
   clear hK31
   replace hA := hA.s7 8 7 6 5 4 0 1
   refine wp_seq_k fun K32 hK32 => ?_
   refine wp_region_lit ?_
   refine asg hA fun a hA => ?_
   refine wpList_nil ?_
   refine hK32 _ _ ?_
   clear hK32
   refine wp_ret ?_
   refine then_ret ?_
   refine post_ret hA (res_1 rfl hA rfl) ?_
   refine ⟨_, rfl, ?_⟩
   rw [hR]
   first | exact ⟨k, rfl, hk, rfl, hH⟩ | exact ⟨_, rfl, by omega, by rw [List.drop_drop]; congr 1; omega, hH⟩

end Go.Proofs.YthhdilafnfcpbaaDoor
