/- Layer 4 (wire): digests, ends, texts that are read. -/
import Derived.Test.YthhdilafnfcpbaaDoorEb
namespace Go.Proofs.YthhdilafnfcpbaaDoor
open Go
set_option linter.unusedVariables false
set_option linter.unusedSimpArgs false
set_option maxRecDepth 100000


theorem rend_any {w0 : World} (b_r : Nat) (v : Value) (l : Bs) (k e : Nat) (hB : By [b_r] w0 v l) (hk : k ≤ l.length) (hl : l.length ≤ 1048576) (hH : HS [b_r] w0 w0 [[(b_r, Obj.cells [v, I (k), I (e)].toArray 108 (0, 0))]]) :
    Calls Tryd.prog 59 #[(.pointer (some ⟨b_r, 0, none⟩))] w0 (Ret fun r w' => r = I (rEnd (l.drop k, e)).1 ∧ HS [b_r] w0 w' [[(b_r, Obj.cells [v, I (k), I ((rEnd (l.drop k, e)).1)].toArray 108 (0, 0))]]) := by
 refine start (n := 19) (E := [(0, _)]) Tryd.func59 rfl rfl rfl (args_look rfl) ?_
 intro a hA
 refine wp_seq_k fun K1 hK1 => ?_
 refine wp_region_lit ?_
 refine asg hA fun a hA => ?_
 refine wpList_nil ?_
 refine hK1 _ _ ?_
 clear hK1
 refine wp_seq_k fun K2 hK2 => ?_
 refine wp_seq_k fun K3 hK3 => ?_
 refine wp_region_lit ?_
 refine mv hA fun a hA => ?_
 refine sl hA (lo_call fn71 rfl (off_any _ _ _ _ _ (HS.rdM (Ns1 := [_]) hH hB) (by omega) hl (HS.handed (Ns1 := [_]) hH))) rfl ?_
 rintro _ w ⟨rfl, hC⟩ a hA
 replace hH := HS.call (Ns1 := [_]) hH hC
 clear hC
 refine hA.spl (fun hs4 hA => ?_) (fun hs4 hA => ?_)
 ·skip
  have hR := rEnd_off (X := l.drop k) hs4
  refine sq hA (q_not rfl) rfl fun a hA => ?_
  refine mv hA fun a hA => ?_
  refine gs hA rfl rfl rfl rfl fun a hA => ?_
  refine gs hA rfl rfl rfl rfl fun a hA => ?_
  refine gs hA rfl rfl rfl rfl fun a hA => ?_
  refine sq hA (q_pick_f rfl rfl) rfl fun a hA => ?_
  refine wpList_nil ?_
  refine hK3 _ _ ?_
  clear hK3
  replace hA := hA.s3 10 2 0
  refine cond_f hA rfl ?_
  refine wp_skip ?_
  refine hK2 _ _ ?_
  clear hK2
  replace hA := hA.s2 2 0
  refine wp_seq_k fun K4 hK4 => ?_
  refine wp_region_lit ?_
  refine mv hA fun a hA => ?_
  refine sl hA (lo_call fn55 rfl (err_any _ _ _ _ _ (HS.rdM (Ns1 := [_]) hH hB) (by omega) hl (HS.handed (Ns1 := [_]) hH))) rfl ?_
  rintro _ w ⟨rfl, hC⟩ a hA
  replace hH := HS.call (Ns1 := [_]) hH hC
  clear hC
  refine asg hA fun a hA => ?_
  refine wpList_nil ?_
  refine hK4 _ _ ?_
  clear hK4
  replace hA := hA.s1 2
  refine wp_ret ?_
  refine post_ret hA (res_1 rfl hA rfl) ?_
  refine ⟨_, rfl, ?_⟩
  rw [hR]
  exact ⟨rfl, hH⟩
 ·skip
  obtain rfl : e = 0 := by omega
  refine sq hA (q_not rfl) rfl fun a hA => ?_
  refine mv hA fun a hA => ?_
  refine gq hA rfl rfl (q_move rfl) rfl fun a hA => ?_
  refine gl hA rfl rfl (lo_call fn54 rfl (left_any _ _ _ _ _ (HS.rdM (Ns1 := [_]) hH hB) (by omega) hl (HS.handed (Ns1 := [_]) hH))) rfl ?_
  rintro _ w ⟨rfl, hC⟩ a hA
  replace hH := HS.call (Ns1 := [_]) hH hC
  clear hC
  refine gq hA rfl rfl (q_gtrI (n := 0) rfl rfl) rfl fun a hA => ?_
  refine sq hA (q_pick_t rfl rfl) rfl fun a hA => ?_
  refine wpList_nil ?_
  refine hK3 _ _ ?_
  clear hK3
  replace hA := hA.s3 10 2 0
  refine cond_d hA rfl (fun hc10 => ?_) (fun hc10 => ?_)
  ·skip
   have hR := rEnd_rest (X := l.drop k) (by omega)
   refine wp_region_lit ?_
   refine mv hA fun a hA => ?_
   refine mv hA fun a hA => ?_
   refine sq hA (q_nilCheck rfl) rfl fun a hA => ?_
   refine sq hA (q_fld 1 Tryd.underlying108 rfl rfl ti3 rfl) rfl fun a hA => ?_
   refine sq hA (q_loadB hH 0 rfl (List.mem_singleton.2 rfl) Tryd.underlying3 rfl rfl rfl) rfl fun a hA => ?_
   refine sl hA (lo_call fn72 rfl (fails_any _ _ _ _ _ (HS.rdM (Ns1 := [_]) hH hB) (by omega) hl _ _ (HS.handed (Ns1 := [_]) hH))) rfl ?_
   rintro _ w ⟨rfl, hC⟩ a hA
   replace hH := HS.call (Ns1 := [_]) hH hC
   clear hC
   refine wpList_nil ?_
   refine hK2 _ _ ?_
   clear hK2
   replace hA := hA.s2 2 0
   refine wp_seq_k fun K5 hK5 => ?_
   refine wp_region_lit ?_
   refine mv hA fun a hA => ?_
   refine sl hA (lo_call fn55 rfl (err_any _ _ _ _ _ (HS.rdM (Ns1 := [_]) hH hB) (by omega) hl (HS.handed (Ns1 := [_]) hH))) rfl ?_
   rintro _ w ⟨rfl, hC⟩ a hA
   replace hH := HS.call (Ns1 := [_]) hH hC
   clear hC
   refine asg hA fun a hA => ?_
   refine wpList_nil ?_
   refine hK5 _ _ ?_
   clear hK5
   replace hA := hA.s1 2
   refine wp_ret ?_
   refine post_ret hA (res_1 rfl hA rfl) ?_
   refine ⟨_, rfl, ?_⟩
   rw [hR]
   exact ⟨rfl, hH⟩
  ·skip
   first | have hR := rEnd_ok (X := l.drop k) (by omega) | skip
   refine wp_skip ?_
   refine hK2 _ _ ?_
   clear hK2
   replace hA := hA.s2 2 0
   refine wp_seq_k fun K6 hK6 => ?_
   refine wp_region_lit ?_
   refine mv hA fun a hA => ?_
   refine sl hA (lo_call fn55 rfl (err_any _ _ _ _ _ (HS.rdM (Ns1 := [_]) hH hB) (by omega) hl (HS.handed (Ns1 := [_]) hH))) rfl ?_
   rintro _ w ⟨rfl, hC⟩ a hA
   replace hH := HS.call (Ns1 := [_]) hH hC
   clear hC
   refine asg hA fun a hA => ?_
   refine wpList_nil ?_
   refine hK6 _ _ ?_
   clear hK6
   replace hA := hA.s1 2
   refine wp_ret ?_
   refine post_ret hA (res_1 rfl hA rfl) ?_
   refine ⟨_, rfl, ?_⟩
   rw [hR]
   exact ⟨rfl, hH⟩

theorem refnumber_any {w0 : World} (v : Value) (l : Bs) (hr : By [] w0 v l) (hl : l.length ≤ 8) :
    Calls Tryd.prog 81 #[v] w0 (Ret fun r w' => r = .tuple #[U64 (num l), I 0] ∧ HS [] w0 w' []) := by
 have hH := HS.start w0
 refine start (n := 24) (E := [(0, _)]) Tryd.func81 rfl rfl rfl (args_look rfl) ?_
 intro a hA
 refine wp_seq_k fun K1 hK1 => ?_
 refine wp_region_lit ?_
 refine asg hA fun a hA => ?_
 refine asg hA fun a hA => ?_
 refine wpList_nil ?_
 refine hK1 _ _ ?_
 clear hK1
 refine wp_seq_k fun K2 hK2 => ?_
 refine wp_seq_k fun K3 hK3 => ?_
 refine wp_region_lit ?_
 refine mv hA fun a hA => ?_
 refine sq hA (q_len Tryd.underlying32 rfl (Rd.shp hr)) rfl fun a hA => ?_
 refine sq hA (q_gtrI (n := 8) rfl rfl) rfl fun a hA => ?_
 refine wpList_nil ?_
 refine hK3 _ _ ?_
 clear hK3
 replace hA := hA.s4 8 3 2 0
 refine cond_d hA rfl (fun hnn => absurd hnn (by omega)) (fun _ => ?_)
 refine wp_skip ?_
 refine hK2 _ _ ?_
 clear hK2
 replace hA := hA.s3 3 2 0
 refine wp_seq_k fun K4 hK4 => ?_
 refine wp_region_lit ?_
 refine asg hA fun a hA => ?_
 refine wpList_nil ?_
 refine hK4 _ _ ?_
 clear hK4
 refine wp_seq_k fun K5 hK5 => ?_
 refine wp_seq_k fun K6 hK6 => ?_
 refine wp_region_lit ?_
 refine asg hA fun a hA => ?_
 refine wpList_nil ?_
 refine hK6 _ _ ?_
 clear hK6
 refine wp_block ?_
 refine wp_loop_ghost (fun gm a w => ∃ i : Nat, At 24 [(5, I i), (4, U64 (num (l.take i))), (3, (I 0)), (2, (U64 0#64)), (0, v)] a ∧ HS [] w0 w ([]) ∧ (i ≤ l.length) ∧ gm = l.length - i) (l.length - (0)) ⟨0, hA.sub ⟨rfl, rfl, rfl, rfl, rfl, trivial⟩, hH, by omega, rfl⟩ ?_
 clear hA hH
 rintro gm a w ⟨i, hA, hH, hi, rfl⟩
 refine wp_seq_k fun K7 hK7 => ?_
 refine wp_seq_k fun K8 hK8 => ?_
 refine wp_region_lit ?_
 refine mv hA fun a hA => ?_
 refine mv hA fun a hA => ?_
 refine sq hA (q_len Tryd.underlying32 rfl (Rd.shp hr)) rfl fun a hA => ?_
 refine sq hA (q_lssI rfl rfl) rfl fun a hA => ?_
 refine wpList_nil ?_
 refine hK8 _ _ ?_
 clear hK8
 refine cond_d hA rfl (fun hc12 => ?_) (fun hc12 => ?_)
 ·skip
  refine wp_skip ?_
  refine hK7 _ _ ?_
  clear hK7
  refine wp_seq_k fun K9 hK9 => ?_
  refine wp_block ?_
  refine wp_region_lit ?_
  refine mv hA fun a hA => ?_
  refine sq hA (q_mul64 (q := 256#64) rfl rfl) rfl fun a hA => ?_
  refine mv hA fun a hA => ?_
  refine mv hA fun a hA => ?_
  refine sq hA (q_idx1 (i) Tryd.underlying32 ti5 rfl rfl (by first | omega | rfl) (Rd.shp hr) (by first | omega | (simp; done) | (simp; omega) | (rw [List.length_map]; assumption) | assumption | rfl | (simp [*]; done) | (simp [*]; omega))) rfl fun a hA => ?_
  refine sq hA (q_loadRm (0#8) Tryd.underlying5 rfl rfl (hH.rd hr) (by first | omega | (simp; done) | (simp; omega) | (rw [List.length_map]; assumption) | assumption | rfl | (simp [*]; done) | (simp [*]; omega))) rfl fun a hA => ?_
  refine sq hA (q_cv8_64 Tryd.underlying5 Tryd.underlying91 rfl) rfl fun a hA => ?_
  refine sq hA (q_add64 rfl rfl) rfl fun a hA => ?_
  refine asg hA fun a hA => ?_
  refine wpList_nil ?_
  refine block_normal ?_
  refine hK9 _ _ ?_
  clear hK9
  refine wp_region_lit ?_
  refine mv hA fun a hA => ?_
  refine sq hA (q_addI (n := 1) rfl rfl (by omega)) rfl fun a hA => ?_
  refine asg hA fun a hA => ?_
  refine wpList_nil ?_
  exact ⟨_, by omega, i + 1, hA.sub ⟨rfl, (by rw [take_snoc (d := 0#8) l (by omega), ← num_mul _ _ 256#64 (by decide)]; rfl), rfl, rfl, rfl, trivial⟩, hH, by omega, rfl⟩
 ·skip
  refine wp_exit ?_
  refine then_exit ?_
  refine then_exit ?_
  refine exit_here ?_
  refine hK5 _ _ ?_
  clear hK5
  replace hA := hA.s3 4 3 2
  refine wp_seq_k fun K10 hK10 => ?_
  refine wp_region_lit ?_
  refine mv hA fun a hA => ?_
  refine asg hA fun a hA => ?_
  refine asg hA fun a hA => ?_
  refine wpList_nil ?_
  refine hK10 _ _ ?_
  clear hK10
  replace hA := hA.s2 3 2
  refine wp_ret ?_
  refine post_ret hA (res_2 rfl hA rfl rfl) ?_
  have : i = l.length := by omega
  subst this
  exact ⟨_, rfl, by rw [List.take_length], hH⟩

set_option maxHeartbeats 1000000 in
theorem refrnum_any {w0 : World} (b_r : Nat) (v : Value) (X : Bs) (e : Nat) (hB : By [b_r] w0 v X) (hl : X.length ≤ 1048576) (most : BitVec 64) (m : Nat) (hm : most.toNat = m) (hH : HS [b_r] w0 w0 [[(b_r, Obj.cells [v, I (e)].toArray 102 (0, 0))]]) :
    Calls Tryd.prog 65 #[(.pointer (some ⟨b_r, 0, none⟩)), U64 most] w0 (Ret fun r w' => ∃ v', r = U64 (rNum m (X, e)).1 ∧ (∀ M w, By M w v X → By M w v' (rNum m (X, e)).2.1) ∧ HS [b_r] w0 w' [[(b_r, Obj.cells [v', I ((rNum m (X, e)).2.2)].toArray 102 (0, 0))]]) := by
 refine start (n := 87) (E := [(0, _), (1, _)]) Tryd.func65 rfl rfl rfl (args_look rfl) ?_
 intro a hA
 refine wp_seq_k fun K1 hK1 => ?_
 refine wp_region_lit ?_
 refine asg hA fun a hA => ?_
 refine wpList_nil ?_
 refine hK1 _ _ ?_
 clear hK1
 refine wp_seq_k fun K2 hK2 => ?_
 refine wp_seq_k fun K3 hK3 => ?_
 refine wp_region_lit ?_
 refine mv hA fun a hA => ?_
 refine sq hA (q_nilCheck rfl) rfl fun a hA => ?_
 refine sq hA (q_fld 1 Tryd.underlying102 rfl rfl ti3 rfl) rfl fun a hA => ?_
 refine sq hA (q_loadB hH 0 rfl (List.mem_singleton.2 rfl) Tryd.underlying3 rfl rfl rfl) rfl fun a hA => ?_
 refine sq hA (q_neqI (n := 0) rfl rfl) rfl fun a hA => ?_
 refine wpList_nil ?_
 refine hK3 _ _ ?_
 clear hK3
 replace hA := hA.s4 12 4 0 1
 refine cond_d hA rfl (fun hc12 => ?_) (fun hc12 => ?_)
 ·skip
  have hR := rNum_off (most := m) (X := X) (e := e) (by omega)
  refine wp_seq_k fun K4 hK4 => ?_
  refine wp_region_lit ?_
  refine asg hA fun a hA => ?_
  refine wpList_nil ?_
  refine hK4 _ _ ?_
  clear hK4
  replace hA := hA.s3 4 0 1
  refine wp_ret ?_
  refine then_ret ?_
  refine post_ret hA (res_1 rfl hA rfl) ?_
  refine ⟨_, rfl, ?_⟩
  rw [hR]
  first | exact ⟨v, rfl, fun M w h => h, hH⟩ | exact ⟨_, rfl, fun M w h => (hP_t83 M w h), hH⟩
 ·skip
  obtain rfl : e = 0 := by omega
  refine wp_skip ?_
  refine hK2 _ _ ?_
  clear hK2
  replace hA := hA.s3 4 0 1
  refine wp_seq_k fun K5 hK5 => ?_
  refine wp_seq_k fun K6 hK6 => ?_
  refine wp_region_lit ?_
  refine mv hA fun a hA => ?_
  refine sq hA (q_nilCheck rfl) rfl fun a hA => ?_
  refine sq hA (q_fld 0 Tryd.underlying102 rfl rfl ti32 rfl) rfl fun a hA => ?_
  refine sq hA (q_loadB hH 0 rfl (List.mem_singleton.2 rfl) Tryd.underlying32 rfl rfl rfl) rfl fun a hA => ?_
  refine sq hA (q_len Tryd.underlying32 rfl (Rd.shp hB)) rfl fun a hA => ?_
  refine sq hA (q_eqlI (n := 0) rfl rfl) rfl fun a hA => ?_
  refine wpList_nil ?_
  refine hK6 _ _ ?_
  clear hK6
  replace hA := hA.s4 18 4 0 1
  refine cond_d hA rfl (fun hc18 => ?_) (fun hc18 => ?_)
  ·skip
   have hR := rNum_err (nE_0 (most := m) (X := X) (by omega)) (by decide)
   refine wp_seq_k fun K7 hK7 => ?_
   refine wp_region_lit ?_
   refine mv hA fun a hA => ?_
   refine sq hA (q_nilCheck rfl) rfl fun a hA => ?_
   refine sq hA (q_fld 1 Tryd.underlying102 rfl rfl ti3 rfl) rfl fun a hA => ?_
   refine s0 hA (lo_store1 hH ti3 rfl rfl (by first | omega | (simp; done) | (simp; omega) | (rw [List.length_map]; assumption) | assumption | rfl | (simp [*]; done) | (simp [*]; omega)) rfl) ?_
   clear hH; rintro _ w hH
   refine wpList_nil ?_
   refine hK7 _ _ ?_
   clear hK7
   replace hA := hA.s3 4 0 1
   refine wp_seq_k fun K8 hK8 => ?_
   refine wp_region_lit ?_
   refine asg hA fun a hA => ?_
   refine wpList_nil ?_
   refine hK8 _ _ ?_
   clear hK8
   refine wp_ret ?_
   refine then_ret ?_
   refine post_ret hA (res_1 rfl hA rfl) ?_
   refine ⟨_, rfl, ?_⟩
   rw [hR]
   first | exact ⟨v, rfl, fun M w h => h, hH⟩ | exact ⟨_, rfl, fun M w h => (hP_t83 M w h), hH⟩
  ·skip
   have hX0 : ¬ X.length = 0 := by omega
   refine wp_skip ?_
   refine hK5 _ _ ?_
   clear hK5
   replace hA := hA.s3 4 0 1
   refine wp_seq_k fun K9 hK9 => ?_
   refine wp_region_lit ?_
   refine mv hA fun a hA => ?_
   refine sq hA (q_nilCheck rfl) rfl fun a hA => ?_
   refine sq hA (q_fld 0 Tryd.underlying102 rfl rfl ti32 rfl) rfl fun a hA => ?_
   refine sq hA (q_loadB hH 0 rfl (List.mem_singleton.2 rfl) Tryd.underlying32 rfl rfl rfl) rfl fun a hA => ?_
   refine sq hA (q_idx1 (0) Tryd.underlying32 ti5 rfl rfl (rfl) (Rd.shp hB) (by first | omega | (simp; done) | (simp; omega) | (rw [List.length_map]; assumption) | assumption | rfl | (simp [*]; done) | (simp [*]; omega))) rfl fun a hA => ?_
   refine sq hA (q_loadRm (0#8) Tryd.underlying5 rfl rfl (hH.rd hB) (by first | omega | (simp; done) | (simp; omega) | (rw [List.length_map]; assumption) | assumption | rfl | (simp [*]; done) | (simp [*]; omega))) rfl fun a hA => ?_
   refine sq hA (q_cv8_I Tryd.underlying5 Tryd.underlying3 rfl (Nat.le_trans (Nat.le_of_lt (BitVec.isLt _)) (by decide))) rfl fun a hA => ?_
   rw [show (X.getD 0 0#8).toNat = nW X from rfl] at hA
   refine asg hA fun a hA => ?_
   refine wpList_nil ?_
   refine hK9 _ _ ?_
   clear hK9
   replace hA := hA.s4 5 4 0 1
   refine wp_seq_k fun K10 hK10 => ?_
   refine wp_seq_k fun K11 hK11 => ?_
   refine wp_region_lit ?_
   refine mv hA fun a hA => ?_
   refine sq hA (q_gtrI (n := 8) rfl rfl) rfl fun a hA => ?_
   refine wpList_nil ?_
   refine hK11 _ _ ?_
   clear hK11
   replace hA := hA.s5 30 5 4 0 1
   refine cond_d hA rfl (fun hc30 => ?_) (fun hc30 => ?_)
   ·skip
    have hR := rNum_err (nE_1 (most := m) hX0 (by omega)) (by decide)
    refine wp_seq_k fun K12 hK12 => ?_
    refine wp_region_lit ?_
    refine mv hA fun a hA => ?_
    refine sq hA (q_nilCheck rfl) rfl fun a hA => ?_
    refine sq hA (q_fld 1 Tryd.underlying102 rfl rfl ti3 rfl) rfl fun a hA => ?_
    refine s0 hA (lo_store1 hH ti3 rfl rfl (by first | omega | (simp; done) | (simp; omega) | (rw [List.length_map]; assumption) | assumption | rfl | (simp [*]; done) | (simp [*]; omega)) rfl) ?_
    clear hH; rintro _ w hH
    refine wpList_nil ?_
    refine hK12 _ _ ?_
    clear hK12
    replace hA := hA.s4 5 4 0 1
    refine wp_seq_k fun K13 hK13 => ?_
    refine wp_region_lit ?_
    refine asg hA fun a hA => ?_
    refine wpList_nil ?_
    refine hK13 _ _ ?_
    clear hK13
    refine wp_ret ?_
    refine then_ret ?_
    refine post_ret hA (res_1 rfl hA rfl) ?_
    refine ⟨_, rfl, ?_⟩
    rw [hR]
    first | exact ⟨v, rfl, fun M w h => h, hH⟩ | exact ⟨_, rfl, fun M w h => (hP_t83 M w h), hH⟩
   ·skip
    have hw8 : nW X ≤ 8 := by omega
    refine wp_skip ?_
    refine hK10 _ _ ?_
    clear hK10
    replace hA := hA.s4 5 4 0 1
    refine wp_seq_k fun K14 hK14 => ?_
    refine wp_seq_k fun K15 hK15 => ?_
    refine wp_region_lit ?_
    refine mv hA fun a hA => ?_
    refine mv hA fun a hA => ?_
    refine sq hA (q_nilCheck rfl) rfl fun a hA => ?_
    refine sq hA (q_fld 0 Tryd.underlying102 rfl rfl ti32 rfl) rfl fun a hA => ?_
    refine sq hA (q_loadB hH 0 rfl (List.mem_singleton.2 rfl) Tryd.underlying32 rfl rfl rfl) rfl fun a hA => ?_
    refine sq hA (q_len Tryd.underlying32 rfl (Rd.shp hB)) rfl fun a hA => ?_
    refine sq hA (q_subI (n := 1) rfl rfl (by omega)) rfl fun a hA => ?_
    refine sq hA (q_gtrI rfl rfl) rfl fun a hA => ?_
    refine wpList_nil ?_
    refine hK15 _ _ ?_
    clear hK15
    replace hA := hA.s5 41 5 4 0 1
    refine cond_d hA rfl (fun hc41 => ?_) (fun hc41 => ?_)
    ·skip
     have hR := rNum_err (nE_2 (most := m) hX0 (by omega) (by omega)) (by decide)
     refine wp_seq_k fun K16 hK16 => ?_
     refine wp_region_lit ?_
     refine mv hA fun a hA => ?_
     refine sq hA (q_nilCheck rfl) rfl fun a hA => ?_
     refine sq hA (q_fld 1 Tryd.underlying102 rfl rfl ti3 rfl) rfl fun a hA => ?_
     refine s0 hA (lo_store1 hH ti3 rfl rfl (by first | omega | (simp; done) | (simp; omega) | (rw [List.length_map]; assumption) | assumption | rfl | (simp [*]; done) | (simp [*]; omega)) rfl) ?_
     clear hH; rintro _ w hH
     refine wpList_nil ?_
     refine hK16 _ _ ?_
     clear hK16
     replace hA := hA.s4 5 4 0 1
     refine wp_seq_k fun K17 hK17 => ?_
     refine wp_region_lit ?_
     refine asg hA fun a hA => ?_
     refine wpList_nil ?_
     refine hK17 _ _ ?_
     clear hK17
     refine wp_ret ?_
     refine then_ret ?_
     refine post_ret hA (res_1 rfl hA rfl) ?_
     refine ⟨_, rfl, ?_⟩
     rw [hR]
     first | exact ⟨v, rfl, fun M w h => h, hH⟩ | exact ⟨_, rfl, fun M w h => (hP_t83 M w h), hH⟩
    ·skip
     have hN2 : ¬ X.length - 1 < nW X := by omega
     refine wp_skip ?_
     refine hK14 _ _ ?_
     clear hK14
     replace hA := hA.s4 5 4 0 1
     refine wp_seq_k fun K18 hK18 => ?_
     refine wp_seq_k fun K19 hK19 => ?_
     refine wp_region_lit ?_
     refine mv hA fun a hA => ?_
     refine sq hA (q_gtrI (n := 0) rfl rfl) rfl fun a hA => ?_
     refine hA.spl (fun hs46 hA => ?_) (fun hs46 hA => ?_)
     ·skip
      refine mv hA fun a hA => ?_
      refine gq hA rfl rfl (q_move rfl) rfl fun a hA => ?_
      refine gq hA rfl rfl (q_nilCheck rfl) rfl fun a hA => ?_
      refine gq hA rfl rfl (q_fld 0 Tryd.underlying102 rfl rfl ti32 rfl) rfl fun a hA => ?_
      refine gq hA rfl rfl (q_loadB hH 0 rfl (List.mem_singleton.2 rfl) Tryd.underlying32 rfl rfl rfl) rfl fun a hA => ?_
      refine gq hA rfl rfl (q_idx1 (1) Tryd.underlying32 ti5 rfl rfl (rfl) (Rd.shp hB) (by first | omega | (simp; done) | (simp; omega) | (rw [List.length_map]; assumption) | assumption | rfl | (simp [*]; done) | (simp [*]; omega))) rfl fun a hA => ?_
      refine gq hA rfl rfl (q_loadRm (0#8) Tryd.underlying5 rfl rfl (hH.rd hB) (by first | omega | (simp; done) | (simp; omega) | (rw [List.length_map]; assumption) | assumption | rfl | (simp [*]; done) | (simp [*]; omega))) rfl fun a hA => ?_
      refine gq hA rfl rfl (q_eql8 (q := 0#8) rfl rfl) rfl fun a hA => ?_
      refine sq hA (q_pick_t rfl rfl) rfl fun a hA => ?_
      refine wpList_nil ?_
      refine hK19 _ _ ?_
      clear hK19
      replace hA := hA.s5 55 5 4 0 1
      refine cond_d hA rfl (fun hc55 => ?_) (fun hc55 => ?_)
      ·skip
       have hR := rNum_err (nE_3 (most := m) hX0 (by omega) hN2 ⟨by omega, hc55⟩) (by decide)
       refine wp_seq_k fun K20 hK20 => ?_
       refine wp_region_lit ?_
       refine mv hA fun a hA => ?_
       refine sq hA (q_nilCheck rfl) rfl fun a hA => ?_
       refine sq hA (q_fld 1 Tryd.underlying102 rfl rfl ti3 rfl) rfl fun a hA => ?_
       refine s0 hA (lo_store1 hH ti3 rfl rfl (by first | omega | (simp; done) | (simp; omega) | (rw [List.length_map]; assumption) | assumption | rfl | (simp [*]; done) | (simp [*]; omega)) rfl) ?_
       clear hH; rintro _ w hH
       refine wpList_nil ?_
       refine hK20 _ _ ?_
       clear hK20
       replace hA := hA.s4 5 4 0 1
       refine wp_seq_k fun K21 hK21 => ?_
       refine wp_region_lit ?_
       refine asg hA fun a hA => ?_
       refine wpList_nil ?_
       refine hK21 _ _ ?_
       clear hK21
       refine wp_ret ?_
       refine then_ret ?_
       refine post_ret hA (res_1 rfl hA rfl) ?_
       refine ⟨_, rfl, ?_⟩
       rw [hR]
       first | exact ⟨v, rfl, fun M w h => h, hH⟩ | exact ⟨_, rfl, fun M w h => (hP_t83 M w h), hH⟩
      ·skip
       have hN3 : ¬ (0 < nW X ∧ X.getD 1 0#8 = 0#8) := fun h => hc55 h.2
       refine wp_skip ?_
       refine hK18 _ _ ?_
       clear hK18
       replace hA := hA.s4 5 4 0 1
       refine wp_seq_k fun K22 hK22 => ?_
       refine wp_region_lit ?_
       refine mv hA fun a hA => ?_
       refine sq hA (q_nilCheck rfl) rfl fun a hA => ?_
       refine sq hA (q_fld 0 Tryd.underlying102 rfl rfl ti32 rfl) rfl fun a hA => ?_
       refine sq hA (q_loadB hH 0 rfl (List.mem_singleton.2 rfl) Tryd.underlying32 rfl rfl rfl) rfl fun a hA => ?_
       refine mv hA fun a hA => ?_
       refine sq hA (q_addI (m := 1) rfl rfl (by omega)) rfl fun a hA => ?_
       obtain ⟨v_t66, hv_t66, hP_t66⟩ := By.piece (Rd.shp hB) (1) ((1 + nW X)) (by first | omega | (simp; omega) | (simp [*]; omega)) (by first | omega | (simp; omega) | (simp [*]; omega)) rfl
       refine sq hA (q_slice Tryd.underlying32 ti5 rfl (1) ((1 + nW X)) hv_t66 (Rd.shp hB) rfl rfl (rfl) (by first | omega | rfl) (by first | omega | (simp; omega) | (simp [*]; omega)) (by first | omega | (simp; omega) | (simp [*]; omega))) rfl fun a hA => ?_
       refine sl hA (lo_call fn81 rfl (refnumber_any _ _ (hH.rd (hP_t66 _ _ hB)) (by first | omega | (simp; done) | (simp; omega)))) rfl ?_
       rintro _ w ⟨rfl, hC⟩ a hA
       replace hH := HS.call0 hH hC
       clear hC
       refine mv hA fun a hA => ?_
       refine sq hA (q_extract rfl rfl) rfl fun a hA => ?_
       rw [show 1 + nW X - 1 = nW X by omega] at hA
       refine sq hA (q_extract rfl rfl) rfl fun a hA => ?_
       refine asg hA fun a hA => ?_
       refine asg hA fun a hA => ?_
       refine wpList_nil ?_
       refine hK22 _ _ ?_
       clear hK22
       replace hA := hA.s5 6 5 4 0 1
       refine wp_seq_k fun K23 hK23 => ?_
       refine wp_seq_k fun K24 hK24 => ?_
       refine wp_region_lit ?_
       refine mv hA fun a hA => ?_
       refine mv hA fun a hA => ?_
       refine sq hA (q_gtr64 rfl rfl) rfl fun a hA => ?_
       refine wpList_nil ?_
       refine hK24 _ _ ?_
       clear hK24
       replace hA := hA.s5 72 6 5 4 0
       refine cond_d hA rfl (fun hc72 => ?_) (fun hc72 => ?_)
       ·skip
        rw [hm] at hc72
        have hR := rNum_err (nE_4 (most := m) hX0 (by omega) hN2 hN3 hc72) (by decide)
        refine wp_seq_k fun K25 hK25 => ?_
        refine wp_region_lit ?_
        refine mv hA fun a hA => ?_
        refine sq hA (q_nilCheck rfl) rfl fun a hA => ?_
        refine sq hA (q_fld 1 Tryd.underlying102 rfl rfl ti3 rfl) rfl fun a hA => ?_
        refine s0 hA (lo_store1 hH ti3 rfl rfl (by first | omega | (simp; done) | (simp; omega) | (rw [List.length_map]; assumption) | assumption | rfl | (simp [*]; done) | (simp [*]; omega)) rfl) ?_
        clear hH; rintro _ w hH
        refine wpList_nil ?_
        refine hK25 _ _ ?_
        clear hK25
        replace hA := hA.s4 6 5 4 0
        refine wp_seq_k fun K26 hK26 => ?_
        refine wp_region_lit ?_
        refine asg hA fun a hA => ?_
        refine wpList_nil ?_
        refine hK26 _ _ ?_
        clear hK26
        refine wp_ret ?_
        refine then_ret ?_
        refine post_ret hA (res_1 rfl hA rfl) ?_
        refine ⟨_, rfl, ?_⟩
        rw [hR]
        first | exact ⟨v, rfl, fun M w h => h, hH⟩ | exact ⟨_, rfl, fun M w h => (hP_t83 M w h), hH⟩
       ·skip
        rw [hm] at hc72
        have hR := rNum_ok (nE_5 (most := m) hX0 (by omega) hN2 hN3 hc72)
        refine wp_skip ?_
        refine hK23 _ _ ?_
        clear hK23
        replace hA := hA.s4 6 5 4 0
        refine wp_seq_k fun K27 hK27 => ?_
        refine wp_region_lit ?_
        refine mv hA fun a hA => ?_
        refine mv hA fun a hA => ?_
        refine sq hA (q_nilCheck rfl) rfl fun a hA => ?_
        refine sq hA (q_fld 0 Tryd.underlying102 rfl rfl ti32 rfl) rfl fun a hA => ?_
        refine sq hA (q_loadB hH 0 rfl (List.mem_singleton.2 rfl) Tryd.underlying32 rfl rfl rfl) rfl fun a hA => ?_
        refine mv hA fun a hA => ?_
        refine sq hA (q_addI (m := 1) rfl rfl (by omega)) rfl fun a hA => ?_
        obtain ⟨v_t83, hv_t83, hP_t83⟩ := By.pieceE (Rd.shp hB) ((1 + nW X)) (by first | omega | (simp; omega) | (simp [*]; omega)) rfl
        refine sq hA (q_slice Tryd.underlying32 ti5 rfl ((1 + nW X)) (_) hv_t83 (Rd.shp hB) rfl rfl (by first | omega | rfl) (by first | rfl | (simp; done) | omega) (by first | omega | (simp; omega) | (simp [*]; omega)) (by first | omega | (simp; omega) | (simp [*]; omega))) rfl fun a hA => ?_
        refine sq hA (q_nilCheck rfl) rfl fun a hA => ?_
        refine sq hA (q_fld 0 Tryd.underlying102 rfl rfl ti32 rfl) rfl fun a hA => ?_
        refine s0 hA (lo_store1 hH ti32 rfl rfl (by first | omega | (simp; done) | (simp; omega) | (rw [List.length_map]; assumption) | assumption | rfl | (simp [*]; done) | (simp [*]; omega)) (Rd.one (hP_t83 _ _ hB))) ?_
        clear hH; rintro _ w hH
        refine wpList_nil ?_
        refine hK27 _ _ ?_
        clear hK27
        replace hA := hA.s2 6 4
        refine wp_seq_k fun K28 hK28 => ?_
        refine wp_region_lit ?_
        refine mv hA fun a hA => ?_
        refine asg hA fun a hA => ?_
        refine wpList_nil ?_
        refine hK28 _ _ ?_
        clear hK28
        replace hA := hA.s1 4
        refine wp_ret ?_
        refine post_ret hA (res_1 rfl hA rfl) ?_
        refine ⟨_, rfl, ?_⟩
        rw [hR]
        first | exact ⟨v, rfl, fun M w h => h, hH⟩ | exact ⟨_, rfl, fun M w h => (hP_t83 M w h), hH⟩
     ·skip
      have hN3 : ¬ (0 < nW X ∧ X.getD 1 0#8 = 0#8) := fun h => by have := h.1; rw [nW] at this; omega
      refine mv hA fun a hA => ?_
      refine gs hA rfl rfl rfl rfl fun a hA => ?_
      refine gs hA rfl rfl rfl rfl fun a hA => ?_
      refine gs hA rfl rfl rfl rfl fun a hA => ?_
      refine gs hA rfl rfl rfl rfl fun a hA => ?_
      refine gs hA rfl rfl rfl rfl fun a hA => ?_
      refine gs hA rfl rfl rfl rfl fun a hA => ?_
      refine gs hA rfl rfl rfl rfl fun a hA => ?_
      refine sq hA (q_pick_f rfl rfl) rfl fun a hA => ?_
      refine wpList_nil ?_
      refine hK19 _ _ ?_
      clear hK19
      replace hA := hA.s5 55 5 4 0 1
      refine cond_f hA rfl ?_
      refine wp_skip ?_
      refine hK18 _ _ ?_
      clear hK18
      replace hA := hA.s4 5 4 0 1
      refine wp_seq_k fun K29 hK29 => ?_
      refine wp_region_lit ?_
      refine mv hA fun a hA => ?_
      refine sq hA (q_nilCheck rfl) rfl fun a hA => ?_
      refine sq hA (q_fld 0 Tryd.underlying102 rfl rfl ti32 rfl) rfl fun a hA => ?_
      refine sq hA (q_loadB hH 0 rfl (List.mem_singleton.2 rfl) Tryd.underlying32 rfl rfl rfl) rfl fun a hA => ?_
      refine mv hA fun a hA => ?_
      refine sq hA (q_addI (m := 1) rfl rfl (by omega)) rfl fun a hA => ?_
      obtain ⟨v_t66, hv_t66, hP_t66⟩ := By.piece (Rd.shp hB) (1) ((1 + nW X)) (by first | omega | (simp; omega) | (simp [*]; omega)) (by first | omega | (simp; omega) | (simp [*]; omega)) rfl
      refine sq hA (q_slice Tryd.underlying32 ti5 rfl (1) ((1 + nW X)) hv_t66 (Rd.shp hB) rfl rfl (rfl) (by first | omega | rfl) (by first | omega | (simp; omega) | (simp [*]; omega)) (by first | omega | (simp; omega) | (simp [*]; omega))) rfl fun a hA => ?_
      refine sl hA (lo_call fn81 rfl (refnumber_any _ _ (hH.rd (hP_t66 _ _ hB)) (by first | omega | (simp; done) | (simp; omega)))) rfl ?_
      rintro _ w ⟨rfl, hC⟩ a hA
      replace hH := HS.call0 hH hC
      clear hC
      refine mv hA fun a hA => ?_
      refine sq hA (q_extract rfl rfl) rfl fun a hA => ?_
      rw [show 1 + nW X - 1 = nW X by omega] at hA
      refine sq hA (q_extract rfl rfl) rfl fun a hA => ?_
      refine asg hA fun a hA => ?_
      refine asg hA fun a hA => ?_
      refine wpList_nil ?_
      refine hK29 _ _ ?_
      clear hK29
      replace hA := hA.s5 6 5 4 0 1
      refine wp_seq_k fun K30 hK30 => ?_
      refine wp_seq_k fun K31 hK31 => ?_
      refine wp_region_lit ?_
      refine mv hA fun a hA => ?_
      refine mv hA fun a hA => ?_
      refine sq hA (q_gtr64 rfl rfl) rfl fun a hA => ?_
      refine wpList_nil ?_
      refine hK31 _ _ ?_
      clear hK31
      replace hA := hA.s5 72 6 5 4 0
      refine cond_d hA rfl (fun hc72 => ?_) (fun hc72 => ?_)
      ·skip
       rw [hm] at hc72
       have hR := rNum_err (nE_4 (most := m) hX0 (by omega) hN2 hN3 hc72) (by decide)
       refine wp_seq_k fun K32 hK32 => ?_
       refine wp_region_lit ?_
       refine mv hA fun a hA => ?_
       refine sq hA (q_nilCheck rfl) rfl fun a hA => ?_
       refine sq hA (q_fld 1 Tryd.underlying102 rfl rfl ti3 rfl) rfl fun a hA => ?_
       refine s0 hA (lo_store1 hH ti3 rfl rfl (by first | omega | (simp; done) | (simp; omega) | (rw [List.length_map]; assumption) | assumption | rfl | (simp [*]; done) | (simp [*]; omega)) rfl) ?_
       clear hH; rintro _ w hH
       refine wpList_nil ?_
       refine hK32 _ _ ?_
       clear hK32
       replace hA := hA.s4 6 5 4 0
       refine wp_seq_k fun K33 hK33 => ?_
       refine wp_region_lit ?_
       refine asg hA fun a hA => ?_
       refine wpList_nil ?_
       refine hK33 _ _ ?_
       clear hK33
       refine wp_ret ?_
       refine then_ret ?_
       refine post_ret hA (res_1 rfl hA rfl) ?_
       refine ⟨_, rfl, ?_⟩
       rw [hR]
       first | exact ⟨v, rfl, fun M w h => h, hH⟩ | exact ⟨_, rfl, fun M w h => (hP_t83 M w h), hH⟩
      ·skip
       rw [hm] at hc72
       have hR := rNum_ok (nE_5 (most := m) hX0 (by omega) hN2 hN3 hc72)
       refine wp_skip ?_
       refine hK30 _ _ ?_
       clear hK30
       replace hA := hA.s4 6 5 4 0
       refine wp_seq_k fun K34 hK34 => ?_
       refine wp_region_lit ?_
       refine mv hA fun a hA => ?_
       refine mv hA fun a hA => ?_
       refine sq hA (q_nilCheck rfl) rfl fun a hA => ?_
       refine sq hA (q_fld 0 Tryd.underlying102 rfl rfl ti32 rfl) rfl fun a hA => ?_
       refine sq hA (q_loadB hH 0 rfl (List.mem_singleton.2 rfl) Tryd.underlying32 rfl rfl rfl) rfl fun a hA => ?_
       refine mv hA fun a hA => ?_
       refine sq hA (q_addI (m := 1) rfl rfl (by omega)) rfl fun a hA => ?_
       obtain ⟨v_t83, hv_t83, hP_t83⟩ := By.pieceE (Rd.shp hB) ((1 + nW X)) (by first | omega | (simp; omega) | (simp [*]; omega)) rfl
       refine sq hA (q_slice Tryd.underlying32 ti5 rfl ((1 + nW X)) (_) hv_t83 (Rd.shp hB) rfl rfl (by first | omega | rfl) (by first | rfl | (simp; done) | omega) (by first | omega | (simp; omega) | (simp [*]; omega)) (by first | omega | (simp; omega) | (simp [*]; omega))) rfl fun a hA => ?_
       refine sq hA (q_nilCheck rfl) rfl fun a hA => ?_
       refine sq hA (q_fld 0 Tryd.underlying102 rfl rfl ti32 rfl) rfl fun a hA => ?_
       refine s0 hA (lo_store1 hH ti32 rfl rfl (by first | omega | (simp; done) | (simp; omega) | (rw [List.length_map]; assumption) | assumption | rfl | (simp [*]; done) | (simp [*]; omega)) (Rd.one (hP_t83 _ _ hB))) ?_
       clear hH; rintro _ w hH
       refine wpList_nil ?_
       refine hK34 _ _ ?_
       clear hK34
       replace hA := hA.s2 6 4
       refine wp_seq_k fun K35 hK35 => ?_
       refine wp_region_lit ?_
       refine mv hA fun a hA => ?_
       refine asg hA fun a hA => ?_
       refine wpList_nil ?_
       refine hK35 _ _ ?_
       clear hK35
       replace hA := hA.s1 4
       refine wp_ret ?_
       refine post_ret hA (res_1 rfl hA rfl) ?_
       refine ⟨_, rfl, ?_⟩
       rw [hR]
       first | exact ⟨v, rfl, fun M w h => h, hH⟩ | exact ⟨_, rfl, fun M w h => (hP_t83 M w h), hH⟩

theorem refrend_any {w0 : World} (b_r : Nat) (v : Value) (X : Bs) (e : Nat) (hB : By [b_r] w0 v X) (hl : X.length ≤ 1048576) (hH : HS [b_r] w0 w0 [[(b_r, Obj.cells [v, I (e)].toArray 102 (0, 0))]]) :
    Calls Tryd.prog 66 #[(.pointer (some ⟨b_r, 0, none⟩))] w0 (Ret fun r w' => r = I (rEnd (X, e)).1 ∧ HS [b_r] w0 w' [[(b_r, Obj.cells [v, I ((rEnd (X, e)).1)].toArray 102 (0, 0))]]) := by
 refine start (n := 23) (E := [(0, _)]) Tryd.func66 rfl rfl rfl (args_look rfl) ?_
 intro a hA
 refine wp_seq_k fun K1 hK1 => ?_
 refine wp_region_lit ?_
 refine asg hA fun a hA => ?_
 refine wpList_nil ?_
 refine hK1 _ _ ?_
 clear hK1
 refine wp_seq_k fun K2 hK2 => ?_
 refine wp_seq_k fun K3 hK3 => ?_
 refine wp_region_lit ?_
 refine mv hA fun a hA => ?_
 refine sq hA (q_nilCheck rfl) rfl fun a hA => ?_
 refine sq hA (q_fld 1 Tryd.underlying102 rfl rfl ti3 rfl) rfl fun a hA => ?_
 refine sq hA (q_loadB hH 0 rfl (List.mem_singleton.2 rfl) Tryd.underlying3 rfl rfl rfl) rfl fun a hA => ?_
 refine sq hA (q_eqlI (n := 0) rfl rfl) rfl fun a hA => ?_
 refine hA.spl (fun hs7 hA => ?_) (fun hs7 hA => ?_)
 ·skip
  obtain rfl : e = 0 := by omega
  refine mv hA fun a hA => ?_
  refine gq hA rfl rfl (q_move rfl) rfl fun a hA => ?_
  refine gq hA rfl rfl (q_nilCheck rfl) rfl fun a hA => ?_
  refine gq hA rfl rfl (q_fld 0 Tryd.underlying102 rfl rfl ti32 rfl) rfl fun a hA => ?_
  refine gq hA rfl rfl (q_loadB hH 0 rfl (List.mem_singleton.2 rfl) Tryd.underlying32 rfl rfl rfl) rfl fun a hA => ?_
  refine gq hA rfl rfl (q_len Tryd.underlying32 rfl (Rd.shp hB)) rfl fun a hA => ?_
  refine gq hA rfl rfl (q_gtrI (n := 0) rfl rfl) rfl fun a hA => ?_
  refine sq hA (q_pick_t rfl rfl) rfl fun a hA => ?_
  refine wpList_nil ?_
  refine hK3 _ _ ?_
  clear hK3
  replace hA := hA.s3 15 2 0
  refine cond_d hA rfl (fun hc15 => ?_) (fun hc15 => ?_)
  ·skip
   have hR := rEnd_rest (X := X) (by omega)
   refine wp_region_lit ?_
   refine mv hA fun a hA => ?_
   refine sq hA (q_nilCheck rfl) rfl fun a hA => ?_
   refine sq hA (q_fld 1 Tryd.underlying102 rfl rfl ti3 rfl) rfl fun a hA => ?_
   refine s0 hA (lo_store1 hH ti3 rfl rfl (by first | omega | (simp; done) | (simp; omega) | (rw [List.length_map]; assumption) | assumption | rfl | (simp [*]; done) | (simp [*]; omega)) rfl) ?_
   clear hH; rintro _ w hH
   refine wpList_nil ?_
   refine hK2 _ _ ?_
   clear hK2
   replace hA := hA.s2 2 0
   refine wp_seq_k fun K4 hK4 => ?_
   refine wp_region_lit ?_
   refine mv hA fun a hA => ?_
   refine sq hA (q_nilCheck rfl) rfl fun a hA => ?_
   refine sq hA (q_fld 1 Tryd.underlying102 rfl rfl ti3 rfl) rfl fun a hA => ?_
   refine sq hA (q_loadB hH 0 rfl (List.mem_singleton.2 rfl) Tryd.underlying3 rfl rfl rfl) rfl fun a hA => ?_
   refine asg hA fun a hA => ?_
   refine wpList_nil ?_
   refine hK4 _ _ ?_
   clear hK4
   replace hA := hA.s1 2
   refine wp_ret ?_
   refine post_ret hA (res_1 rfl hA rfl) ?_
   refine ⟨_, rfl, ?_⟩
   rw [hR]
   exact ⟨rfl, hH⟩
  ·skip
   first | have hR := rEnd_ok (X := X) (by omega) | skip
   refine wp_skip ?_
   refine hK2 _ _ ?_
   clear hK2
   replace hA := hA.s2 2 0
   refine wp_seq_k fun K5 hK5 => ?_
   refine wp_region_lit ?_
   refine mv hA fun a hA => ?_
   refine sq hA (q_nilCheck rfl) rfl fun a hA => ?_
   refine sq hA (q_fld 1 Tryd.underlying102 rfl rfl ti3 rfl) rfl fun a hA => ?_
   refine sq hA (q_loadB hH 0 rfl (List.mem_singleton.2 rfl) Tryd.underlying3 rfl rfl rfl) rfl fun a hA => ?_
   refine asg hA fun a hA => ?_
   refine wpList_nil ?_
   refine hK5 _ _ ?_
   clear hK5
   replace hA := hA.s1 2
   refine wp_ret ?_
   refine post_ret hA (res_1 rfl hA rfl) ?_
   refine ⟨_, rfl, ?_⟩
   rw [hR]
   exact ⟨rfl, hH⟩
 ·skip
  have hR := rEnd_off (X := X) (e := e) (by omega)
  refine mv hA fun a hA => ?_
  refine gs hA rfl rfl rfl rfl fun a hA => ?_
  refine gs hA rfl rfl rfl rfl fun a hA => ?_
  refine gs hA rfl rfl rfl rfl fun a hA => ?_
  refine gs hA rfl rfl rfl rfl fun a hA => ?_
  refine gs hA rfl rfl rfl rfl fun a hA => ?_
  refine gs hA rfl rfl rfl rfl fun a hA => ?_
  refine sq hA (q_pick_f rfl rfl) rfl fun a hA => ?_
  refine wpList_nil ?_
  refine hK3 _ _ ?_
  clear hK3
  replace hA := hA.s3 15 2 0
  refine cond_f hA rfl ?_
  refine wp_skip ?_
  refine hK2 _ _ ?_
  clear hK2
  replace hA := hA.s2 2 0
  refine wp_seq_k fun K6 hK6 => ?_
  refine wp_region_lit ?_
  refine mv hA fun a hA => ?_
  refine sq hA (q_nilCheck rfl) rfl fun a hA => ?_
  refine sq hA (q_fld 1 Tryd.underlying102 rfl rfl ti3 rfl) rfl fun a hA => ?_
  refine sq hA (q_loadB hH 0 rfl (List.mem_singleton.2 rfl) Tryd.underlying3 rfl rfl rfl) rfl fun a hA => ?_
  refine asg hA fun a hA => ?_
  refine wpList_nil ?_
  refine hK6 _ _ ?_
  clear hK6
  replace hA := hA.s1 2
  refine wp_ret ?_
  refine post_ret hA (res_1 rfl hA rfl) ?_
  refine ⟨_, rfl, ?_⟩
  rw [hR]
  exact ⟨rfl, hH⟩


set_option maxHeartbeats 1000000 in
theorem refrtext_any {w0 : World} (b_r : Nat) (v : Value) (X : Bs) (e : Nat) (hB : By [b_r] w0 v X) (hl : X.length ≤ 1048576) (most : Int) (hmost : most ≤ 9223372036854775807) (hH : HS [b_r] w0 w0 [[(b_r, Obj.cells [v, I (e)].toArray 102 (0, 0))]]) :
    Calls Tryd.prog 62 #[(.pointer (some ⟨b_r, 0, none⟩)), I most] w0 (Ret fun r w' => ∃ v' v2 N, v2 = r ∧ Ow B8 5 v2 (rText most (X, e)).1 N ∧ (∀ M w, By M w v X → By M w v' (rText most (X, e)).2.1) ∧ HS [b_r] w0 w' [[(b_r, Obj.cells [v', I ((rText most (X, e)).2.2)].toArray 102 (0, 0))], N]) := by
 refine start (n := 67) (E := [(0, _), (1, _)]) Tryd.func62 rfl rfl rfl (args_look rfl) ?_
 intro a hA
 have hnl : (rNum 18446744073709551615 (X, e)).2.1.length ≤ X.length := rNum_len 18446744073709551615 (X, e)
 refine wp_seq_k fun K1 hK1 => ?_
 refine wp_region_lit ?_
 refine asg hA fun a hA => ?_
 refine wpList_nil ?_
 refine hK1 _ _ ?_
 clear hK1
 refine wp_seq_k fun K2 hK2 => ?_
 refine wp_region_lit ?_
 refine mv hA fun a hA => ?_
 refine sq hA (q_nilCheck rfl) rfl fun a hA => ?_
 refine sq hA (q_fld 0 Tryd.underlying102 rfl rfl ti32 rfl) rfl fun a hA => ?_
 refine sq hA (q_loadB hH 0 rfl (List.mem_singleton.2 rfl) Tryd.underlying32 rfl rfl rfl) rfl fun a hA => ?_
 refine asg hA fun a hA => ?_
 refine wpList_nil ?_
 refine hK2 _ _ ?_
 clear hK2
 replace hA := hA.s4 5 4 0 1
 refine wp_seq_k fun K3 hK3 => ?_
 refine wp_region_lit ?_
 refine mv hA fun a hA => ?_
 refine sl hA (lo_call fn65 rfl (refrnum_any _ _ _ _ (HS.rdM (Ns1 := [_]) hH hB) (by omega) 18446744073709551615#64 18446744073709551615 (by decide) (HS.handed (Ns1 := [_]) hH))) rfl ?_
 rintro _ w ⟨w_t13, rfl, hT_t13, hC⟩ a hA
 replace hH := HS.call (Ns1 := [_]) hH hC
 clear hC
 refine asg hA fun a hA => ?_
 refine wpList_nil ?_
 refine hK3 _ _ ?_
 clear hK3
 replace hA := hA.s5 6 5 4 0 1
 refine wp_seq_k fun K4 hK4 => ?_
 refine wp_seq_k fun K5 hK5 => ?_
 refine wp_region_lit ?_
 refine mv hA fun a hA => ?_
 refine sq hA (q_nilCheck rfl) rfl fun a hA => ?_
 refine sq hA (q_fld 1 Tryd.underlying102 rfl rfl ti3 rfl) rfl fun a hA => ?_
 refine sq hA (q_loadB hH 0 rfl (List.mem_singleton.2 rfl) Tryd.underlying3 rfl rfl rfl) rfl fun a hA => ?_
 refine sq hA (q_neqI (n := 0) rfl rfl) rfl fun a hA => ?_
 refine wpList_nil ?_
 refine hK5 _ _ ?_
 clear hK5
 replace hA := hA.s6 18 6 5 4 0 1
 refine cond_d hA rfl (fun hc18 => ?_) (fun hc18 => ?_)
 ·skip
  have hR := rText_1 (most := most) (s := (X, e)) (by omega)
  refine wp_seq_k fun K6 hK6 => ?_
  refine wp_region_lit ?_
  refine asg hA fun a hA => ?_
  refine wpList_nil ?_
  refine hK6 _ _ ?_
  clear hK6
  replace hA := hA.s5 4 6 5 0 1
  refine wp_ret ?_
  refine then_ret ?_
  refine post_ret hA (res_1 rfl hA rfl) ?_
  refine ⟨_, rfl, ?_⟩
  rw [hR]
  first | exact ⟨v, _, [], rfl, Ow.nil B8 _, fun M w h => h, HS.nil2 hH⟩ | exact ⟨_, _, [], rfl, Ow.nil B8 _, hT_t13, HS.nil2 hH⟩
 ·skip
  have hn0 : ¬ (rNum 18446744073709551615 (X, e)).2.2 ≠ 0 := by omega
  have e0 : (rNum 18446744073709551615 (X, e)).2.2 = 0 := by omega
  refine wp_skip ?_
  refine hK4 _ _ ?_
  clear hK4
  replace hA := hA.s5 6 5 4 0 1
  refine wp_seq_k fun K7 hK7 => ?_
  refine wp_seq_k fun K8 hK8 => ?_
  refine wp_region_lit ?_
  refine mv hA fun a hA => ?_
  refine sq hA (q_lssI (n := 0) rfl rfl) rfl fun a hA => ?_
  refine hA.spl (fun hs20 hA => ?_) (fun hs20 hA => ?_)
  ·skip
   have hR := rText_2 (most := most) (s := (X, e)) hn0 (by omega)
   refine mv hA fun a hA => ?_
   refine gs hA rfl rfl rfl rfl fun a hA => ?_
   refine gs hA rfl rfl rfl rfl fun a hA => ?_
   refine gs hA rfl rfl rfl rfl fun a hA => ?_
   refine gs hA rfl rfl rfl rfl fun a hA => ?_
   refine sq hA (q_pick_t rfl rfl) rfl fun a hA => ?_
   refine wpList_nil ?_
   refine hK8 _ _ ?_
   clear hK8
   replace hA := hA.s5 26 6 5 4 0
   refine cond_t hA rfl ?_
   refine wp_seq_k fun K9 hK9 => ?_
   refine wp_region_lit ?_
   refine mv hA fun a hA => ?_
   refine sq hA (q_nilCheck rfl) rfl fun a hA => ?_
   refine sq hA (q_fld 1 Tryd.underlying102 rfl rfl ti3 rfl) rfl fun a hA => ?_
   refine s0 hA (lo_store1 hH ti3 rfl rfl (by first | omega | (simp; done) | (simp; omega) | (rw [List.length_map]; assumption) | assumption | rfl | (simp [*]; done) | (simp [*]; omega)) rfl) ?_
   clear hH; rintro _ w hH
   refine wpList_nil ?_
   refine hK9 _ _ ?_
   clear hK9
   replace hA := hA.s4 6 5 4 0
   refine wp_seq_k fun K10 hK10 => ?_
   refine wp_region_lit ?_
   refine mv hA fun a hA => ?_
   refine mv hA fun a hA => ?_
   refine sq hA (q_nilCheck rfl) rfl fun a hA => ?_
   refine sq hA (q_fld 0 Tryd.underlying102 rfl rfl ti32 rfl) rfl fun a hA => ?_
   refine s0 hA (lo_store1 hH ti32 rfl rfl (by first | omega | (simp; done) | (simp; omega) | (rw [List.length_map]; assumption) | assumption | rfl | (simp [*]; done) | (simp [*]; omega)) (Rd.one hB)) ?_
   clear hH; rintro _ w hH
   refine wpList_nil ?_
   refine hK10 _ _ ?_
   clear hK10
   replace hA := hA.s4 6 5 4 0
   refine wp_seq_k fun K11 hK11 => ?_
   refine wp_region_lit ?_
   refine asg hA fun a hA => ?_
   refine wpList_nil ?_
   refine hK11 _ _ ?_
   clear hK11
   refine wp_ret ?_
   refine then_ret ?_
   refine post_ret hA (res_1 rfl hA rfl) ?_
   refine ⟨_, rfl, ?_⟩
   rw [hR]
   first | exact ⟨v, _, [], rfl, Ow.nil B8 _, fun M w h => h, HS.nil2 hH⟩ | exact ⟨_, _, [], rfl, Ow.nil B8 _, hT_t13, HS.nil2 hH⟩
  ·skip
   refine mv hA fun a hA => ?_
   refine gq hA rfl rfl (q_move rfl) rfl fun a hA => ?_
   refine gq hA rfl rfl (q_move rfl) rfl fun a hA => ?_
   refine gq hA rfl rfl (q_cvI64 Tryd.underlying3 Tryd.underlying91 rfl) rfl fun a hA => ?_
   refine gq hA rfl rfl (q_gtr64 rfl rfl) rfl fun a hA => ?_
   refine sq hA (q_pick_f rfl rfl) rfl fun a hA => ?_
   refine wpList_nil ?_
   refine hK8 _ _ ?_
   clear hK8
   replace hA := hA.s5 26 6 5 4 0
   refine cond_d hA rfl (fun hc26 => ?_) (fun hc26 => ?_)
   ·skip
    first | rw [toNat_ofIntN (by omega)] at hc26 | skip
    have hR := rText_2 (most := most) (s := (X, e)) hn0 (by omega)
    refine wp_seq_k fun K12 hK12 => ?_
    refine wp_region_lit ?_
    refine mv hA fun a hA => ?_
    refine sq hA (q_nilCheck rfl) rfl fun a hA => ?_
    refine sq hA (q_fld 1 Tryd.underlying102 rfl rfl ti3 rfl) rfl fun a hA => ?_
    refine s0 hA (lo_store1 hH ti3 rfl rfl (by first | omega | (simp; done) | (simp; omega) | (rw [List.length_map]; assumption) | assumption | rfl | (simp [*]; done) | (simp [*]; omega)) rfl) ?_
    clear hH; rintro _ w hH
    refine wpList_nil ?_
    refine hK12 _ _ ?_
    clear hK12
    replace hA := hA.s4 6 5 4 0
    refine wp_seq_k fun K13 hK13 => ?_
    refine wp_region_lit ?_
    refine mv hA fun a hA => ?_
    refine mv hA fun a hA => ?_
    refine sq hA (q_nilCheck rfl) rfl fun a hA => ?_
    refine sq hA (q_fld 0 Tryd.underlying102 rfl rfl ti32 rfl) rfl fun a hA => ?_
    refine s0 hA (lo_store1 hH ti32 rfl rfl (by first | omega | (simp; done) | (simp; omega) | (rw [List.length_map]; assumption) | assumption | rfl | (simp [*]; done) | (simp [*]; omega)) (Rd.one hB)) ?_
    clear hH; rintro _ w hH
    refine wpList_nil ?_
    refine hK13 _ _ ?_
    clear hK13
    replace hA := hA.s4 6 5 4 0
    refine wp_seq_k fun K14 hK14 => ?_
    refine wp_region_lit ?_
    refine asg hA fun a hA => ?_
    refine wpList_nil ?_
    refine hK14 _ _ ?_
    clear hK14
    refine wp_ret ?_
    refine then_ret ?_
    refine post_ret hA (res_1 rfl hA rfl) ?_
    refine ⟨_, rfl, ?_⟩
    rw [hR]
    first | exact ⟨v, _, [], rfl, Ow.nil B8 _, fun M w h => h, HS.nil2 hH⟩ | exact ⟨_, _, [], rfl, Ow.nil B8 _, hT_t13, HS.nil2 hH⟩
   ·skip
    rw [toNat_ofIntN (by omega)] at hc26
    have hn2 : ¬ (most < 0 ∨ most < (rNum 18446744073709551615 (X, e)).1.toNat) := by omega
    refine wp_skip ?_
    refine hK7 _ _ ?_
    clear hK7
    replace hA := hA.s4 6 5 4 0
    refine wp_seq_k fun K15 hK15 => ?_
    refine wp_seq_k fun K16 hK16 => ?_
    refine wp_region_lit ?_
    refine mv hA fun a hA => ?_
    refine mv hA fun a hA => ?_
    refine sq hA (q_nilCheck rfl) rfl fun a hA => ?_
    refine sq hA (q_fld 0 Tryd.underlying102 rfl rfl ti32 rfl) rfl fun a hA => ?_
    refine sq hA (q_loadB hH 0 rfl (List.mem_singleton.2 rfl) Tryd.underlying32 rfl rfl rfl) rfl fun a hA => ?_
    refine sq hA (q_len Tryd.underlying32 rfl (Rd.shp (hT_t13 _ _ hB))) rfl fun a hA => ?_
    refine sq hA (q_cvI64 Tryd.underlying3 Tryd.underlying91 rfl) rfl fun a hA => ?_
    refine sq hA (q_gtr64 rfl rfl) rfl fun a hA => ?_
    refine wpList_nil ?_
    refine hK16 _ _ ?_
    clear hK16
    replace hA := hA.s5 41 6 5 4 0
    refine cond_d hA rfl (fun hc41 => ?_) (fun hc41 => ?_)
    ·skip
     rw [toNat_ofInt64 (by omega)] at hc41
     have hR := rText_3 (most := most) (s := (X, e)) hn0 hn2 (by omega)
     refine wp_seq_k fun K17 hK17 => ?_
     refine wp_region_lit ?_
     refine mv hA fun a hA => ?_
     refine sq hA (q_nilCheck rfl) rfl fun a hA => ?_
     refine sq hA (q_fld 1 Tryd.underlying102 rfl rfl ti3 rfl) rfl fun a hA => ?_
     refine s0 hA (lo_store1 hH ti3 rfl rfl (by first | omega | (simp; done) | (simp; omega) | (rw [List.length_map]; assumption) | assumption | rfl | (simp [*]; done) | (simp [*]; omega)) rfl) ?_
     clear hH; rintro _ w hH
     refine wpList_nil ?_
     refine hK17 _ _ ?_
     clear hK17
     replace hA := hA.s4 6 5 4 0
     refine wp_seq_k fun K18 hK18 => ?_
     refine wp_region_lit ?_
     refine mv hA fun a hA => ?_
     refine mv hA fun a hA => ?_
     refine sq hA (q_nilCheck rfl) rfl fun a hA => ?_
     refine sq hA (q_fld 0 Tryd.underlying102 rfl rfl ti32 rfl) rfl fun a hA => ?_
     refine s0 hA (lo_store1 hH ti32 rfl rfl (by first | omega | (simp; done) | (simp; omega) | (rw [List.length_map]; assumption) | assumption | rfl | (simp [*]; done) | (simp [*]; omega)) (Rd.one hB)) ?_
     clear hH; rintro _ w hH
     refine wpList_nil ?_
     refine hK18 _ _ ?_
     clear hK18
     replace hA := hA.s3 6 4 0
     refine wp_seq_k fun K19 hK19 => ?_
     refine wp_region_lit ?_
     refine asg hA fun a hA => ?_
     refine wpList_nil ?_
     refine hK19 _ _ ?_
     clear hK19
     refine wp_ret ?_
     refine then_ret ?_
     refine post_ret hA (res_1 rfl hA rfl) ?_
     refine ⟨_, rfl, ?_⟩
     rw [hR]
     first | exact ⟨v, _, [], rfl, Ow.nil B8 _, fun M w h => h, HS.nil2 hH⟩ | exact ⟨_, _, [], rfl, Ow.nil B8 _, hT_t13, HS.nil2 hH⟩
    ·skip
     rw [toNat_ofInt64 (by omega)] at hc41
     have hR := rText_4 (most := most) (s := (X, e)) hn0 hn2 (by omega)
     refine wp_skip ?_
     refine hK15 _ _ ?_
     clear hK15
     replace hA := hA.s3 6 4 0
     refine wp_seq_k fun K20 hK20 => ?_
     refine wp_region_lit ?_
     refine sl hA (lo_bs (f := B8) (e := 5) ([]) hH rfl rfl (fun w => by kernel_rfl)) rfl ?_
     clear hH; rintro v_t49 w ⟨N_t49, hO_t49, hH⟩ a hA
     refine mv hA fun a hA => ?_
     refine sq hA (q_nilCheck rfl) rfl fun a hA => ?_
     refine sq hA (q_fld 0 Tryd.underlying102 rfl rfl ti32 rfl) rfl fun a hA => ?_
     refine sq hA (q_loadB hH 1 rfl (List.mem_singleton.2 rfl) Tryd.underlying32 rfl rfl rfl) rfl fun a hA => ?_
     refine mv hA fun a hA => ?_
     obtain ⟨v_t55, hv_t55, hP_t55⟩ := By.piece0 (Rd.shp (hT_t13 _ _ hB)) ((rNum 18446744073709551615 (X, e)).1.toNat) (by first | omega | (simp; omega) | (simp [*]; omega)) rfl
     refine sq hA (q_slice Tryd.underlying32 ti5 rfl (0) ((rNum 18446744073709551615 (X, e)).1.toNat) hv_t55 (Rd.shp (hT_t13 _ _ hB)) rfl rfl (rfl) (by omega) (by first | omega | (simp; omega) | (simp [*]; omega)) (by first | omega | (simp; omega) | (simp [*]; omega))) rfl fun a hA => ?_
     refine sl hA (lo_appm hH Tryd.underlying32 Tryd.underlying32 (.inl rfl) ti5 rfl rfl rfl hO_t49 (Rd.src (hH.rd (hP_t55 _ _ (hT_t13 _ _ hB)))) (one_B8 _) (by first | omega | (simp; done) | (simp; omega)) (by first | omega | (simp; done) | (simp; omega))) rfl ?_
     clear hH; rintro v_t56 w ⟨N_t56, hO_t56, hH⟩ a hA
     refine asg hA fun a hA => ?_
     refine wpList_nil ?_
     refine hK20 _ _ ?_
     clear hK20
     replace hA := hA.s4 7 6 4 0
     refine wp_seq_k fun K21 hK21 => ?_
     refine wp_region_lit ?_
     refine mv hA fun a hA => ?_
     refine mv hA fun a hA => ?_
     refine sq hA (q_nilCheck rfl) rfl fun a hA => ?_
     refine sq hA (q_fld 0 Tryd.underlying102 rfl rfl ti32 rfl) rfl fun a hA => ?_
     refine sq hA (q_loadB hH 1 rfl (List.mem_singleton.2 rfl) Tryd.underlying32 rfl rfl rfl) rfl fun a hA => ?_
     refine mv hA fun a hA => ?_
     obtain ⟨v_t63, hv_t63, hP_t63⟩ := By.pieceE (Rd.shp (hT_t13 _ _ hB)) ((rNum 18446744073709551615 (X, e)).1.toNat) (by first | omega | (simp; omega) | (simp [*]; omega)) rfl
     refine sq hA (q_slice Tryd.underlying32 ti5 rfl ((rNum 18446744073709551615 (X, e)).1.toNat) (_) hv_t63 (Rd.shp (hT_t13 _ _ hB)) rfl rfl (by omega) (by first | rfl | (simp; done) | omega) (by first | omega | (simp; omega) | (simp [*]; omega)) (by first | omega | (simp; omega) | (simp [*]; omega))) rfl fun a hA => ?_
     refine sq hA (q_nilCheck rfl) rfl fun a hA => ?_
     refine sq hA (q_fld 0 Tryd.underlying102 rfl rfl ti32 rfl) rfl fun a hA => ?_
     replace hH := hH.pick [1, 0] (Hs' := [_, _]) rfl
     refine s0 hA (lo_store1 hH ti32 rfl rfl (by first | omega | (simp; done) | (simp; omega) | (rw [List.length_map]; assumption) | assumption | rfl | (simp [*]; done) | (simp [*]; omega)) (Rd.one (hP_t63 _ _ (hT_t13 _ _ hB)))) ?_
     clear hH; rintro _ w hH
     refine wpList_nil ?_
     refine hK21 _ _ ?_
     clear hK21
     replace hA := hA.s2 7 4
     refine wp_seq_k fun K22 hK22 => ?_
     refine wp_region_lit ?_
     refine mv hA fun a hA => ?_
     refine asg hA fun a hA => ?_
     refine wpList_nil ?_
     refine hK22 _ _ ?_
     clear hK22
     replace hA := hA.s1 4
     refine wp_ret ?_
     refine post_ret hA (res_1 rfl hA rfl) ?_
     refine ⟨_, rfl, ?_⟩
     rw [hR]
     exact ⟨_, _, N_t56, rfl, by simpa using hO_t56, fun M w h => (hP_t63 M w (hT_t13 M w h)), by rw [e0] at hH; exact hH⟩

end Go.Proofs.YthhdilafnfcpbaaDoor
