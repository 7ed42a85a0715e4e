/- Layer 11 (frame): scanning; the same rows. -/
import Derived.Test.YthhdilafnfcpbaaDoorGa
namespace Go.Proofs.YthhdilafnfcpbaaDoor
open Go
set_option linter.unusedVariables false
set_option linter.unusedSimpArgs false
set_option maxRecDepth 100000



theorem sameR_any {w0 : World} (u v : Value) (p q : List Bs) (hp : RdR [] w0 u p) (hq : RdR [] w0 v q) (hl : p.length ≤ 1048576) (hm : q.length ≤ 1048576) (hpl : ∀ x ∈ p, x.length ≤ 4194304) (hql : ∀ x ∈ q, x.length ≤ 4194304) :
    Calls Tryd.prog 31 #[u, v] w0 (Ret fun r w' => r = .bool (decide (p = q)) ∧ HS [] w0 w' []) := by
 have hH := HS.start w0
 refine start (n := 27) (E := [(0, _), (1, _)]) Tryd.func31 rfl rfl rfl (args_look rfl) ?_
 intro a hA
 obtain ⟨vs_u, hvu, hru, hwu⟩ := hp
 obtain ⟨vs_v, hvv, hrv, hwv⟩ := hq
 refine wp_seq_k fun K1 hK1 => ?_
 refine wp_region_lit ?_
 refine asg hA fun a hA => ?_
 refine wpList_nil ?_
 refine hK1 _ _ ?_
 clear hK1
 refine wp_seq_k fun K2 hK2 => ?_
 refine wp_seq_k fun K3 hK3 => ?_
 refine wp_region_lit ?_
 refine mv hA fun a hA => ?_
 refine sq hA (q_len Tryd.underlying33 rfl (Rd.shp hru)) rfl fun a hA => ?_
 refine mv hA fun a hA => ?_
 refine sq hA (q_len Tryd.underlying33 rfl (Rd.shp hrv)) rfl fun a hA => ?_
 refine sq hA (q_neqI rfl rfl) rfl fun a hA => ?_
 refine wpList_nil ?_
 refine hK3 _ _ ?_
 clear hK3
 replace hA := hA.s4 10 4 0 1
 refine cond_d hA rfl (fun hc10 => ?_) (fun hc10 => ?_)
 ·skip
  have hne : ¬ p = q := fun e => hc10 (by rw [e])
  refine wp_seq_k fun K4 hK4 => ?_
  refine wp_region_lit ?_
  refine asg hA fun a hA => ?_
  refine wpList_nil ?_
  refine hK4 _ _ ?_
  clear hK4
  replace hA := hA.s3 4 0 1
  refine wp_ret ?_
  refine then_ret ?_
  refine post_ret hA (res_1 rfl hA rfl) ?_
  first
    | have hd := decide_eq_false hne
      exact ⟨_, rfl, by rw [hd], hH⟩
    | have : i = p.length := by omega
      subst this
      have he : p = q := by have h1 := ht; rw [List.take_length, hlen, List.take_length] at h1; exact h1
      exact ⟨_, rfl, by rw [decide_eq_true he], hH⟩
 ·skip
  have hlen : p.length = q.length := by omega
  refine wp_skip ?_
  refine hK2 _ _ ?_
  clear hK2
  replace hA := hA.s3 4 0 1
  refine wp_seq_k fun K5 hK5 => ?_
  refine wp_seq_k fun K6 hK6 => ?_
  refine wp_region_lit ?_
  refine asg hA fun a hA => ?_
  refine wpList_nil ?_
  refine hK6 _ _ ?_
  clear hK6
  refine wp_block ?_
  refine wp_loop_ghost (fun gm a w => ∃ i : Nat, At 27 [(5, I i), (4, (.bool false)), (0, u), (1, v)] a ∧ HS [] w0 w ([]) ∧ (i ≤ p.length) ∧ (p.take i = q.take i) ∧ gm = p.length - i) (p.length - (0)) ⟨0, hA.sub ⟨rfl, rfl, rfl, rfl, trivial⟩, hH, by omega, by simp, rfl⟩ ?_
  clear hA hH
  rintro gm a w ⟨i, hA, hH, hi, ht, rfl⟩
  refine wp_seq_k fun K7 hK7 => ?_
  refine wp_seq_k fun K8 hK8 => ?_
  refine wp_region_lit ?_
  refine mv hA fun a hA => ?_
  refine mv hA fun a hA => ?_
  refine sq hA (q_len Tryd.underlying33 rfl (Rd.shp hru)) rfl fun a hA => ?_
  refine sq hA (q_lssI rfl rfl) rfl fun a hA => ?_
  refine wpList_nil ?_
  refine hK8 _ _ ?_
  clear hK8
  refine cond_d hA rfl (fun hc14 => ?_) (fun hc14 => ?_)
  ·skip
   refine wp_skip ?_
   refine hK7 _ _ ?_
   clear hK7
   refine wp_seq_k fun K9 hK9 => ?_
   refine wp_block ?_
   refine wp_seq_k fun K10 hK10 => ?_
   refine any_go mixed (fun j => !(Nat.beq j 8)) hH ?_
   clear hH; intro w hH
   have hS := hH
   refine any_l 10 ?_
   refine p0 hA 0 1 rfl (fun w => (q_move rfl)) fun a hA => ?_
   refine p0 hA 1 3 rfl (fun w => (q_move rfl)) fun a hA => ?_
   refine p0 hA 2 7 rfl (fun w => (q_idx1 (i) Tryd.underlying33 ti32 rfl rfl (by first | omega | rfl) (Rd.shp hru) (by first | omega | (simp; done) | (simp; omega) | (rw [List.length_map]; assumption) | assumption | rfl | (simp [*]; done) | (simp [*]; omega)))) fun a hA => ?_
   refine r0 hA 3 15 rfl hS (fun w hH => (q_loadR Tryd.underlying32 rfl rfl (hH.rd hru) (by first | omega | (simp; done) | (simp; omega) | (rw [List.length_map]; assumption) | assumption | rfl | (simp [*]; done) | (simp [*]; omega)) (getD_some' vs_u nilV (by first | omega | (simp; done) | (simp; omega) | (rw [List.length_map]; assumption) | assumption | rfl | (simp [*]; done) | (simp [*]; omega))))) fun a hA => ?_
   refine p0 hA 4 31 rfl (fun w => (q_move rfl)) fun a hA => ?_
   refine p0 hA 5 63 rfl (fun w => (q_move rfl)) fun a hA => ?_
   have hpi := hpl (p.getD i []) (by simp [List.getD, show i < p.length by omega])
   have hqi := hql (q.getD i []) (by simp [List.getD, show i < q.length by omega])
   refine p0 hA 6 127 rfl (fun w => (q_idx1 (i) Tryd.underlying33 ti32 rfl rfl (by first | omega | rfl) (Rd.shp hrv) (by first | omega | (simp; done) | (simp; omega) | (rw [List.length_map]; assumption) | assumption | rfl | (simp [*]; done) | (simp [*]; omega)))) fun a hA => ?_
   refine r0 hA 7 255 rfl hS (fun w hH => (q_loadR Tryd.underlying32 rfl rfl (hH.rd hrv) (by first | omega | (simp; done) | (simp; omega) | (rw [List.length_map]; assumption) | assumption | rfl | (simp [*]; done) | (simp [*]; omega)) (getD_some' vs_v nilV (by first | omega | (simp; done) | (simp; omega) | (rw [List.length_map]; assumption) | assumption | rfl | (simp [*]; done) | (simp [*]; omega))))) fun a hA => ?_
   refine a1n hA 8 511 rfl (lo_call fn21 rfl (same_any _ _ _ _ (hH.rd (hwu (i) (by first | omega | (simp; done) | (simp; omega) | (rw [List.length_map]; assumption) | assumption | rfl | (simp [*]; done) | (simp [*]; omega)))) (hH.rd (hwv (i) (by first | omega | (simp; done) | (simp; omega) | (rw [List.length_map]; assumption) | assumption | rfl | (simp [*]; done) | (simp [*]; omega)))) (by first | omega | (simp; done) | (simp; omega)) (by first | omega | (simp; done) | (simp; omega)))) ?_
   rintro _ w ⟨rfl, hC⟩
   replace hH := HS.call0 hH hC
   clear hC
   intro a hA
   refine hA.spl (fun hs25 hA => ?_) (fun hs25 hA => ?_)
   ·skip
    have heq : p.getD i [] = q.getD i [] := hs25
    refine p0 hA 9 1023 rfl (fun w => (q_not rfl)) fun a hA => ?_
    refine a_end (by kernel_rfl) ?_ _
    refine hK10 _ _ ?_
    clear hK10
    refine cond_f hA rfl ?_
    refine wp_skip ?_
    refine block_normal ?_
    refine hK9 _ _ ?_
    clear hK9
    refine wp_region_lit ?_
    refine mv hA fun a hA => ?_
    refine sq hA (q_addI (n := 1) rfl rfl (by omega)) rfl fun a hA => ?_
    refine asg hA fun a hA => ?_
    refine wpList_nil ?_
    exact ⟨_, by omega, i + 1, hA.sub ⟨rfl, rfl, rfl, rfl, trivial⟩, hH, by omega, by (rw [take_snoc (d := []) p (by omega), take_snoc (d := []) q (by omega), ht, heq]), rfl⟩
   ·skip
    have hne : ¬ p = q := fun e => hs25 (by rw [e])
    refine p0 hA 9 1023 rfl (fun w => (q_not rfl)) fun a hA => ?_
    refine a_end (by kernel_rfl) ?_ _
    refine hK10 _ _ ?_
    clear hK10
    refine cond_t hA rfl ?_
    refine wp_seq_k fun K11 hK11 => ?_
    refine wp_region_lit ?_
    refine asg hA fun a hA => ?_
    refine wpList_nil ?_
    refine hK11 _ _ ?_
    clear hK11
    refine wp_ret ?_
    refine block_ret ?_
    refine then_ret ?_
    refine then_ret ?_
    refine block_ret ?_
    refine then_ret ?_
    refine post_ret hA (res_1 rfl hA rfl) ?_
    first
      | have hd := decide_eq_false hne
        exact ⟨_, rfl, by rw [hd], hH⟩
      | have : i = p.length := by omega
        subst this
        have he : p = q := by have h1 := ht; rw [List.take_length, hlen, List.take_length] at h1; exact h1
        exact ⟨_, rfl, by rw [decide_eq_true he], hH⟩
  ·skip
   refine wp_exit ?_
   refine then_exit ?_
   refine then_exit ?_
   refine exit_here ?_
   refine hK5 _ _ ?_
   clear hK5
   replace hA := hA.s1 4
   refine wp_seq_k fun K12 hK12 => ?_
   refine wp_region_lit ?_
   refine asg hA fun a hA => ?_
   refine wpList_nil ?_
   refine hK12 _ _ ?_
   clear hK12
   refine wp_ret ?_
   refine post_ret hA (res_1 rfl hA rfl) ?_
   first
     | have hd := decide_eq_false hne
       exact ⟨_, rfl, by rw [hd], hH⟩
     | have : i = p.length := by omega
       subst this
       have he : p = q := by have h1 := ht; rw [List.take_length, hlen, List.take_length] at h1; exact h1
       exact ⟨_, rfl, by rw [decide_eq_true he], hH⟩

set_option maxHeartbeats 1000000 in
theorem scan_any {w0 : World} {lv : Nat} (hg : Gl lv w0) (v : Value) (l : Bs) (hr : By [] w0 v l) (hl : l.length ≤ 1000000) :
    Calls Tryd.prog 32 #[v] w0 (Ret fun r w' => ∃ v' Nr Nd, r = .tuple #[v', I (scanV l).2] ∧ RowsH 32 v' (scanV l).1 Nr Nd ∧ HS [] w0 w' [Nr, Nd]) := by
 have hH := HS.start w0
 refine start (n := 100) (E := [(0, _)]) Tryd.func32 rfl rfl rfl (args_look rfl) ?_
 intro a hA
 refine wp_seq_k fun K1 hK1 => ?_
 refine wp_region_lit ?_
 refine asg hA fun a hA => ?_
 refine asg hA fun a hA => ?_
 refine wpList_nil ?_
 refine hK1 _ _ ?_
 clear hK1
 refine wp_scope_straight ?_
 refine wp_seq_k fun K2 hK2 => ?_
 refine wp_region_lit ?_
 refine asg hA fun a hA => ?_
 refine wpList_nil ?_
 refine hK2 _ _ ?_
 clear hK2
 refine wp_seq_k fun K3 hK3 => ?_
 refine wp_region_lit ?_
 refine asg hA fun a hA => ?_
 refine wpList_nil ?_
 refine hK3 _ _ ?_
 clear hK3
 refine wp_seq_k fun K4 hK4 => ?_
 refine wp_label ?_
 refine hK4 _ _ ?_
 clear hK4
 refine wp_seq_k fun K5 hK5 => ?_
 refine wp_block ?_
 replace hH := hH.nilFront
 replace hH := hH.nilFront
 replace hH := hH.pick [1, 0] (Hs' := [_, _]) rfl
 refine wp_loop_ghost (fun gm a w => ∃ i : Nat, ∃ v_o : Value, ∃ N_o : Hl, ∃ N_od : Hl, At 100 [(5, I (scN l i).2), (4, v_o), (3, (I 0)), (2, (.slice none 0 0)), (0, v)] a ∧ HS [] w0 w ([N_o, N_od]) ∧ (RowsH 32 v_o (scN l i).1 N_o N_od) ∧ gm = l.length - (scN l i).2) (l.length - (scN l (0)).2) ⟨0, nilV, [], [], hA.sub ⟨rfl, rfl, rfl, rfl, rfl, trivial⟩, hH, by exact RowsH.nil _, rfl⟩ ?_
 clear hA hH
 rintro gm a w ⟨i, v_o, N_o, N_od, hA, hH, hR_o, rfl⟩
 have hle := scN_le l i
 obtain ⟨z, hz⟩ : ∃ z, z = (scN l i).2 := ⟨_, rfl⟩
 rw [← hz] at hA hle
 refine wp_seq_k fun K6 hK6 => ?_
 refine wp_seq_k fun K7 hK7 => ?_
 refine wp_region_lit ?_
 refine mv hA fun a hA => ?_
 refine mv hA fun a hA => ?_
 refine sq hA (q_len Tryd.underlying32 rfl (Rd.shp hr)) rfl fun a hA => ?_
 refine sq hA (q_lssI rfl rfl) rfl fun a hA => ?_
 refine wpList_nil ?_
 refine hK7 _ _ ?_
 clear hK7
 refine cond_d hA rfl (fun hc17 => ?_) (fun hc17 => ?_)
 ·skip
  refine wp_skip ?_
  refine hK6 _ _ ?_
  clear hK6
  refine wp_block ?_
  refine wp_seq_k fun K8 hK8 => ?_
  refine wp_region_lit ?_
  refine mv hA fun a hA => ?_
  refine mv hA fun a hA => ?_
  refine mv hA fun a hA => ?_
  refine sq hA (q_len Tryd.underlying32 rfl (Rd.shp hr)) rfl fun a hA => ?_
  refine mv hA fun a hA => ?_
  refine sq hA (q_addI (n := 9) rfl rfl (by omega)) rfl fun a hA => ?_
  refine sq hA (q_minI rfl rfl) rfl fun a hA => ?_
  obtain ⟨v_t25, hv_t25, hP_t25⟩ := By.piece (Rd.shp hr) (z) (min l.length (z + 9)) (by omega) (by omega) rfl
  refine sq hA (q_slice Tryd.underlying32 ti5 rfl (z) (min l.length (z + 9)) hv_t25 (Rd.shp hr) rfl rfl (rfl) (by split <;> omega) (by omega) (by omega)) rfl fun a hA => ?_
  have hP9 : ∀ M w, By M w v l → By M w v_t25 ((l.drop z).take 9) := fun M w h => by have h2 := hP_t25 M w h; rwa [head9 l hle] at h2
  have hXl : (l.drop z).length = l.length - z := List.length_drop
  have h9l : ((l.drop z).take 9).length = min 9 (l.length - z) := by rw [List.length_take, hXl]
  have h9x : ((l.drop z).take (min l.length (z + 9) - z)).length = min 9 (l.length - z) := by rw [head9 l hle, h9l]
  refine asg hA fun a hA => ?_
  refine wpList_nil ?_
  refine hK8 _ _ ?_
  clear hK8
  refine wp_seq_k fun K9 hK9 => ?_
  refine wp_region_lit ?_
  refine mv hA fun a hA => ?_
  refine sl hA (lo_call fn52 rfl (read_any _ _ (hH.rd (hP9 _ _ hr)) (by omega))) rfl ?_
  rintro _ w ⟨b_t27, v_d27, N_d27, rfl, hO_d27, hC⟩ a hA
  replace hH := HS.call0 hH hC
  clear hC
  refine asg hA fun a hA => ?_
  refine wpList_nil ?_
  refine hK9 _ _ ?_
  clear hK9
  refine wp_seq_k fun K10 hK10 => ?_
  refine wp_region_lit ?_
  refine mv hA fun a hA => ?_
  refine sl hA (lo_call fn53 rfl (rnum_any b_t27 _ _ 0 0 (Own.rdM hO_d27 (Ns1 := [_]) hH 0 rfl) (Nat.zero_le _) (by omega) 262144#64 262144 (by decide) (HS.handed (Ns1 := [_]) hH))) rfl ?_
  rintro _ w ⟨k_t29, rfl, hk_t29, hd_t29, hC⟩ a hA
  replace hH := HS.call (Ns1 := [_]) hH hC
  clear hC
  have h9d : (((l.drop z).take 9).drop k_t29).length = min 9 (l.length - z) - k_t29 := by rw [List.length_drop, h9l]
  obtain ⟨w29, hw29⟩ : ∃ w29, w29 = rNum 262144 (List.drop 0 ((l.drop z).take 9), 0) := ⟨_, rfl⟩
  rw [← hw29] at hA hH hd_t29
  obtain ⟨hbad, hgood, hw29l⟩ := num9 (l.drop z) hw29
  refine sq hA (q_cv64_I Tryd.underlying91 Tryd.underlying3 rfl (by omega)) rfl fun a hA => ?_
  refine asg hA fun a hA => ?_
  refine wpList_nil ?_
  refine hK10 _ _ ?_
  clear hK10
  refine wp_seq_k fun K11 hK11 => ?_
  refine wp_region_lit ?_
  refine mv hA fun a hA => ?_
  refine sq hA (q_len Tryd.underlying32 rfl (Rd.shp (hP_t25 _ _ hr))) rfl fun a hA => ?_
  refine mv hA fun a hA => ?_
  refine sl hA (lo_call fn54 rfl (left_any b_t27 _ _ _ _ (Own.rdM hO_d27 (Ns1 := [_]) hH 0 rfl) (by assumption) (by omega) (HS.handed (Ns1 := [_]) hH))) rfl ?_
  rintro _ w ⟨rfl, hC⟩ a hA
  replace hH := HS.call (Ns1 := [_]) hH hC
  clear hC
  refine sq hA (q_subI rfl rfl (by omega)) rfl fun a hA => ?_
  rw [show ((((l.drop z).take (min l.length (z + 9) - z)).length : Int) - (((l.drop z).take 9).drop k_t29).length) = (k_t29 : Int) by omega] at hA
  refine asg hA fun a hA => ?_
  refine wpList_nil ?_
  refine hK11 _ _ ?_
  clear hK11
  refine wp_seq_k fun K12 hK12 => ?_
  refine wp_seq_k fun K13 hK13 => ?_
  refine wp_region_lit ?_
  refine mv hA fun a hA => ?_
  refine sl hA (lo_call fn55 rfl (err_any b_t27 _ _ _ _ (Own.rdM hO_d27 (Ns1 := [_]) hH 0 rfl) (by assumption) (by omega) (HS.handed (Ns1 := [_]) hH))) rfl ?_
  rintro _ w ⟨rfl, hC⟩ a hA
  replace hH := HS.call (Ns1 := [_]) hH hC
  clear hC
  refine sq hA (q_neqI (n := 0) rfl rfl) rfl fun a hA => ?_
  refine hA.spl (fun hs38 hA => ?_) (fun hs38 hA => ?_)
  ·skip
   have hf := hbad (by omega)
   have hst : scanV l = scN l i := scanV_of (by rw [← hz]; exact hf)
   refine mv hA fun a hA => ?_
   refine gs hA rfl rfl rfl rfl fun a hA => ?_
   refine gs hA rfl rfl rfl rfl fun a hA => ?_
   refine gs hA rfl rfl rfl rfl fun a hA => ?_
   refine gs hA rfl rfl rfl rfl fun a hA => ?_
   refine gs hA rfl rfl rfl rfl fun a hA => ?_
   refine gs hA rfl rfl rfl rfl fun a hA => ?_
   refine gs hA rfl rfl rfl rfl fun a hA => ?_
   refine gs hA rfl rfl rfl rfl fun a hA => ?_
   refine gs hA rfl rfl rfl rfl fun a hA => ?_
   refine sq hA (q_pick_t rfl rfl) rfl fun a hA => ?_
   refine mv hA fun a hA => ?_
   refine gs hA rfl rfl rfl rfl fun a hA => ?_
   refine gs hA rfl rfl rfl rfl fun a hA => ?_
   refine sq hA (q_pick_t rfl rfl) rfl fun a hA => ?_
   refine wpList_nil ?_
   refine hK13 _ _ ?_
   clear hK13
   refine cond_t hA rfl ?_
   refine wp_exit ?_
   refine then_exit ?_
   refine exit_out rfl ?_
   refine then_exit ?_
   refine exit_here ?_
   refine hK5 _ _ ?_
   clear hK5
   replace hA := hA.s4 5 4 3 2
   refine wp_seq_k fun K14 hK14 => ?_
   refine wp_region_lit ?_
   refine mv hA fun a hA => ?_
   refine mv hA fun a hA => ?_
   refine asg hA fun a hA => ?_
   refine asg hA fun a hA => ?_
   refine wpList_nil ?_
   refine hK14 _ _ ?_
   clear hK14
   replace hA := hA.s2 3 2
   refine wp_ret ?_
   refine noGoto_ret ?_
   refine post_ret hA (res_2 rfl hA rfl rfl) ?_
   replace hH := hH.pick [2, 3, 0, 1] (Hs' := [_, _, _, _]) rfl
   replace hH := hH.pick [0, 1] (Hs' := [_, _]) rfl
   exact ⟨_, rfl, v_o, N_o, N_od, by rw [hst, hz], by rw [hst]; exact hR_o, hH⟩
  ·skip
   obtain ⟨e1, e2, e3⟩ := hgood (by omega)
   have hF : k_t29 = 1 + nW (l.drop z) := num9_at e3 hk_t29 (hd_t29.trans e2)
   refine mv hA fun a hA => ?_
   refine gq hA rfl rfl (q_move rfl) rfl fun a hA => ?_
   refine gq hA rfl rfl (q_move rfl) rfl fun a hA => ?_
   refine gq hA rfl rfl (q_len Tryd.underlying32 rfl (Rd.shp hr)) rfl fun a hA => ?_
   refine gq hA rfl rfl (q_move rfl) rfl fun a hA => ?_
   refine gq hA rfl rfl (q_subI rfl rfl (by omega)) rfl fun a hA => ?_
   refine gq hA rfl rfl (q_move rfl) rfl fun a hA => ?_
   refine gq hA rfl rfl (q_subI rfl rfl (by omega)) rfl fun a hA => ?_
   refine gq hA rfl rfl (q_subI (n := 8) rfl rfl (by omega)) rfl fun a hA => ?_
   refine gq hA rfl rfl (q_gtrI rfl rfl) rfl fun a hA => ?_
   refine hA.spl (fun hs48 hA => ?_) (fun hs48 hA => ?_)
   ·skip
    have hf := fr_short e3 (by rw [← hF, ← e1]; omega)
    have hst : scanV l = scN l i := scanV_of (by rw [← hz]; exact hf)
    refine sq hA (q_pick_f rfl rfl) rfl fun a hA => ?_
    refine mv hA fun a hA => ?_
    refine gs hA rfl rfl rfl rfl fun a hA => ?_
    refine gs hA rfl rfl rfl rfl fun a hA => ?_
    refine sq hA (q_pick_t rfl rfl) rfl fun a hA => ?_
    refine wpList_nil ?_
    refine hK13 _ _ ?_
    clear hK13
    refine cond_t hA rfl ?_
    refine wp_exit ?_
    refine then_exit ?_
    refine exit_out rfl ?_
    refine then_exit ?_
    refine exit_here ?_
    refine hK5 _ _ ?_
    clear hK5
    replace hA := hA.s4 5 4 3 2
    refine wp_seq_k fun K15 hK15 => ?_
    refine wp_region_lit ?_
    refine mv hA fun a hA => ?_
    refine mv hA fun a hA => ?_
    refine asg hA fun a hA => ?_
    refine asg hA fun a hA => ?_
    refine wpList_nil ?_
    refine hK15 _ _ ?_
    clear hK15
    replace hA := hA.s2 3 2
    refine wp_ret ?_
    refine noGoto_ret ?_
    refine post_ret hA (res_2 rfl hA rfl rfl) ?_
    replace hH := hH.pick [2, 3, 0, 1] (Hs' := [_, _, _, _]) rfl
    replace hH := hH.pick [0, 1] (Hs' := [_, _]) rfl
    exact ⟨_, rfl, v_o, N_o, N_od, by rw [hst, hz], by rw [hst]; exact hR_o, hH⟩
   ·skip
    have hlong : ¬ (l.drop z).length < k_t29 + w29.1.toNat + 8 := by omega
    refine sq hA (q_pick_f rfl rfl) rfl fun a hA => ?_
    refine mv hA fun a hA => ?_
    refine gq hA rfl rfl (q_move rfl) rfl fun a hA => ?_
    refine gq hA rfl rfl (q_lssI (n := 0) rfl rfl) rfl fun a hA => ?_
    replace hA := hA.decF (by omega)
    refine sq hA (q_pick_f rfl rfl) rfl fun a hA => ?_
    refine wpList_nil ?_
    refine hK13 _ _ ?_
    clear hK13
    refine cond_f hA rfl ?_
    refine wp_skip ?_
    refine hK12 _ _ ?_
    clear hK12
    refine wp_seq_k fun K16 hK16 => ?_
    refine wp_region_lit ?_
    refine mv hA fun a hA => ?_
    refine mv hA fun a hA => ?_
    refine mv hA fun a hA => ?_
    refine mv hA fun a hA => ?_
    refine sq hA (q_addI rfl rfl (by omega)) rfl fun a hA => ?_
    refine mv hA fun a hA => ?_
    refine sq hA (q_addI rfl rfl (by omega)) rfl fun a hA => ?_
    obtain ⟨v_t61, hv_t61, hP_t61⟩ := By.piece (Rd.shp hr) (z) (z + k_t29 + w29.1.toNat) (by omega) (by omega) rfl
    refine sq hA (q_slice Tryd.underlying32 ti5 rfl (z) (z + k_t29 + w29.1.toNat) hv_t61 (Rd.shp hr) rfl rfl (rfl) (by omega) (by omega) (by omega)) rfl fun a hA => ?_
    replace hP_t61 : ∀ M w, By M w v l → By M w v_t61 ((l.drop z).take (k_t29 + w29.1.toNat)) := fun M w h => by have h2 := hP_t61 M w h; rwa [show z + k_t29 + w29.1.toNat - z = k_t29 + w29.1.toNat by omega] at h2
    refine asg hA fun a hA => ?_
    refine wpList_nil ?_
    refine hK16 _ _ ?_
    clear hK16
    refine wp_seq_k fun K17 hK17 => ?_
    refine wp_region_lit ?_
    refine mv hA fun a hA => ?_
    refine sl hA (lo_call fn56 rfl (sum_any (hg.mono0 hH) _ _ (hH.rd (hP_t61 _ _ hr)) (by first | omega | (simp; done) | (simp; omega)))) rfl ?_
    rintro _ w ⟨rfl, hC⟩ a hA
    replace hH := HS.call0 hH hC
    clear hC
    refine sl hA (lo_allocA hH ti94) rfl ?_
    clear hH; rintro _ w ⟨b_t11, rfl, hH⟩ a hA
    refine s0 hA (lo_storeAm hH ti94 rfl rfl (by first | omega | (simp; done) | (simp; omega) | (rw [List.length_map]; assumption) | assumption | rfl | (simp [*]; done) | (simp [*]; omega)) (by first | omega | (simp; done) | (simp; omega) | (rw [List.length_map]; assumption) | assumption | rfl | (simp [*]; done) | (simp [*]; omega)) (one_B8 _)) ?_
    clear hH; rintro _ w hH
    refine wpList_nil ?_
    refine hK17 _ _ ?_
    clear hK17
    refine wp_seq_k fun K18 hK18 => ?_
    refine wp_seq_k fun K19 hK19 => ?_
    refine any_go mixed (fun j => !(Nat.beq j 14)) hH ?_
    clear hH; intro w hH
    have hS := hH
    refine any_l 20 ?_
    refine p0 hA 0 1 rfl (fun w => (q_sliceA Tryd.underlying94 ti5 rfl 0 8 rfl rfl rfl rfl (by omega) (by omega))) fun a hA => ?_
    refine p0 hA 1 3 rfl (fun w => (q_move rfl)) fun a hA => ?_
    refine p0 hA 2 7 rfl (fun w => (q_move rfl)) fun a hA => ?_
    refine p0 hA 3 15 rfl (fun w => (q_move rfl)) fun a hA => ?_
    refine p0 hA 4 31 rfl (fun w => (q_addI rfl rfl (by omega))) fun a hA => ?_
    refine p0 hA 5 63 rfl (fun w => (q_move rfl)) fun a hA => ?_
    refine p0 hA 6 127 rfl (fun w => (q_addI rfl rfl (by omega))) fun a hA => ?_
    refine p0 hA 7 255 rfl (fun w => (q_move rfl)) fun a hA => ?_
    refine p0 hA 8 511 rfl (fun w => (q_move rfl)) fun a hA => ?_
    refine p0 hA 9 1023 rfl (fun w => (q_addI rfl rfl (by omega))) fun a hA => ?_
    refine p0 hA 10 2047 rfl (fun w => (q_move rfl)) fun a hA => ?_
    refine p0 hA 11 4095 rfl (fun w => (q_addI rfl rfl (by omega))) fun a hA => ?_
    refine p0 hA 12 8191 rfl (fun w => (q_addI (n := 8) rfl rfl (by omega))) fun a hA => ?_
    obtain ⟨v_t78, hv_t78, hP_t78⟩ := By.piece (Rd.shp hr) (z + k_t29 + w29.1.toNat) (z + k_t29 + w29.1.toNat + 8) (by omega) (by omega) rfl
    refine p0 hA 13 16383 rfl (fun w => (q_slice Tryd.underlying32 ti5 rfl (z + k_t29 + w29.1.toNat) (z + k_t29 + w29.1.toNat + 8) hv_t78 (Rd.shp hr) rfl rfl (by omega) (by omega) (by omega) (by omega))) fun a hA => ?_
    replace hP_t78 : ∀ M w, By M w v l → By M w v_t78 (((l.drop z).drop (k_t29 + w29.1.toNat)).take 8) := fun M w h => by have h2 := hP_t78 M w h; rwa [show z + k_t29 + w29.1.toNat + 8 - (z + k_t29 + w29.1.toNat) = 8 by omega, Nat.add_assoc z, ← List.drop_drop] at h2
    refine a1n hA 14 32767 rfl (lo_call fn57 rfl (msame_any _ _ _ _ (HS.by8 hH 0 rfl (by simp)) (hH.rd (hP_t78 _ _ hr)) (by rw [List.length_take, sha_length]; omega) (by rw [List.length_take]; omega))) ?_
    rintro _ w ⟨rfl, hC⟩
    replace hH := HS.call0 hH hC
    clear hC
    intro a hA
    refine p0 hA 15 65535 rfl (fun w => (q_move rfl)) fun a hA => ?_
    refine p0 hA 16 131071 rfl (fun w => (q_extract rfl rfl)) fun a hA => ?_
    refine hA.spl (fun hs80 hA => ?_) (fun hs80 hA => ?_)
    ·skip
     have hf := fr_yes e3 (by rw [← hF, ← e1]; exact hlong) (by rw [← hF, ← e1]; exact hs80)
     rw [← hF, ← e1] at hf
     obtain ⟨x, hx⟩ : ∃ x, x = ((l.drop z).drop k_t29).take w29.1.toNat := ⟨_, rfl⟩
     obtain ⟨n, hn⟩ : ∃ n, n = k_t29 + w29.1.toNat + 8 := ⟨_, rfl⟩
     rw [← hx, ← hn] at hf
     obtain ⟨g1, g2, g3, g4⟩ := frV_det hf
     have g5 := wf_length x
     rw [List.length_drop] at g4
     have hs1 := scN_some (l := l) (i := i) (by rw [← hz]; exact hf)
     have hs2 : (scN l (i + 1)).2 = z + n := by rw [hs1, hz]
     refine p0 hA 17 262143 rfl (fun w => (q_extract rfl rfl)) fun a hA => ?_
     refine p0 hA 18 524287 rfl (fun w => (q_assign rfl)) fun a hA => ?_
     refine p0 hA 19 1048575 rfl (fun w => (q_assign rfl)) fun a hA => ?_
     refine a_end (by kernel_rfl) ?_ _
     refine hK19 _ _ ?_
     clear hK19
     replace hA := hA.sub (E' := [(12, _), (81, _), (80, _), (64, _), (79, _), (78, _), (77, _), (76, _), (75, _), (74, _), (73, _), (72, _), (71, _), (70, _), (69, _), (68, _), (67, _), (66, _), (65, _), (11, _), (63, _), (62, _), (10, _), (61, _), (60, _), (59, _), (58, _), (57, _), (56, _), (55, _), (54, _), (53, _), (52, _), (51, _), (50, _), (49, _), (48, _), (47, _), (46, _), (45, _), (44, _), (43, _), (42, _), (41, _), (40, _), (39, _), (38, _), (37, _), (36, _), (9, _), (35, _), (34, _), (33, _), (32, _), (31, _), (8, _), (30, _), (29, _), (28, _), (7, _), (27, _), (26, _), (6, _), (25, _), (24, _), (23, _), (22, _), (21, _), (20, _), (19, _), (18, _), (17, _), (16, _), (15, _), (14, _), (5, _), (4, _), (3, _), (2, _), (0, _)]) ⟨rfl, rfl, rfl, rfl, rfl, rfl, rfl, rfl, rfl, rfl, rfl, rfl, rfl, rfl, rfl, rfl, rfl, rfl, rfl, rfl, rfl, rfl, rfl, rfl, rfl, rfl, rfl, rfl, rfl, rfl, rfl, rfl, rfl, rfl, rfl, rfl, rfl, rfl, rfl, rfl, rfl, rfl, rfl, rfl, rfl, rfl, rfl, rfl, rfl, rfl, rfl, rfl, rfl, rfl, rfl, rfl, rfl, rfl, rfl, rfl, rfl, rfl, rfl, rfl, rfl, rfl, rfl, rfl, rfl, rfl, rfl, rfl, rfl, rfl, rfl, rfl, rfl, rfl, rfl, rfl, trivial⟩
     refine wp_seq_k fun K20 hK20 => ?_
     refine wp_region_lit ?_
     refine mv hA fun a hA => ?_
     refine sq hA (q_not rfl) rfl fun a hA => ?_
     refine wpList_nil ?_
     refine hK20 _ _ ?_
     clear hK20
     refine cond_f hA rfl ?_
     refine wp_skip ?_
     refine hK18 _ _ ?_
     clear hK18
     refine wp_seq_k fun K21 hK21 => ?_
     refine wp_region_lit ?_
     refine mv hA fun a hA => ?_
     refine sl hA (lo_bs (f := B8) (e := 5) ([]) hH rfl rfl (fun w => by kernel_rfl)) rfl ?_
     clear hH; rintro v_t85 w ⟨N_t85, hO_t85, hH⟩ a hA
     refine mv hA fun a hA => ?_
     refine mv hA fun a hA => ?_
     obtain ⟨v_t88, hv_t88, hP_t88⟩ := By.pieceE (Rd.shp (hP_t61 _ _ hr)) (k_t29) (by first | omega | (simp; omega)) rfl
     refine sq hA (q_slice Tryd.underlying32 ti5 rfl (k_t29) (_) hv_t88 (Rd.shp (hP_t61 _ _ hr)) rfl rfl (by omega) (by first | rfl | (simp; done) | omega) (by first | omega | (simp; omega)) (by first | omega | (simp; omega))) rfl fun a hA => ?_
     refine sl hA (lo_appm hH Tryd.underlying32 Tryd.underlying32 (.inl rfl) ti5 rfl rfl rfl hO_t85 (Rd.src (hH.rd (hP_t88 _ _ (hP_t61 _ _ hr)))) (one_B8 _) (by first | omega | (simp; done) | (simp; omega)) (by first | omega | (simp; done) | (simp; omega))) rfl ?_
     clear hH; rintro v_t89 w ⟨N_t89, hO_t89, hH⟩ a hA
     refine sl hA (lo_build1 hH Tryd.underlying33 ti32 rfl rfl (Own.one hO_t89)) rfl ?_
     clear hH; rintro v_t90 w ⟨N_t90, hO_t90, hH⟩ a hA
     replace hH := hH.pick [5, 0, 1, 2, 3, 4, 6] (Hs' := [_, _, _, _, _, _, _]) rfl
     obtain ⟨vs_t91, hvl_t91, hvo_t91, hvr_t91⟩ := hR_o
     refine sl hA (lo_append hH Tryd.underlying33 Tryd.underlying33 (.inl rfl) ti32 rfl rfl rfl hvo_t91 (Rd.src (Own.rd0 hO_t90 hH 1 rfl)) (by intro u hu; rw [List.mem_singleton.1 hu]; exact Own.one hO_t89) (by first | omega | (have hsl := scN_count l i; omega)) (by first | omega | (have hsl := scN_count l i; omega))) rfl ?_
     clear hH; rintro v_t91 w ⟨N_t91, hO_t91, hH⟩ a hA
     replace hH := HS.join (hH.pick [2, 6, 0, 1, 3, 4, 5] (Hs' := [_, _, _, _, _, _, _]) rfl)
     obtain ⟨N_dt91, hN_dt91, hR_t91⟩ : ∃ N, N = _ ∧ RowsH 32 v_t91 _ N_t91 N := ⟨_, rfl, RowsH.snoc hvl_t91 hO_t91 hvr_t91 (Own.rdh hO_t89)⟩
     rw [← hN_dt91] at hH
     refine asg hA fun a hA => ?_
     refine wpList_nil ?_
     refine hK21 _ _ ?_
     clear hK21
     refine wp_region_lit ?_
     refine mv hA fun a hA => ?_
     refine mv hA fun a hA => ?_
     refine mv hA fun a hA => ?_
     refine sq hA (q_addI rfl rfl (by omega)) rfl fun a hA => ?_
     refine sq hA (q_addI (n := 8) rfl rfl (by omega)) rfl fun a hA => ?_
     refine sq hA (q_addI rfl rfl (by omega)) rfl fun a hA => ?_
     rw [show ((z : Int) + ((k_t29 : Int) + w29.1.toNat + 8)) = ((z + n : Nat) : Int) by omega] at hA
     refine asg hA fun a hA => ?_
     refine wpList_nil ?_
     refine block_normal ?_
     replace hH := hH.pick [1, 0, 2, 3, 4, 5] (Hs' := [_, _, _, _, _, _]) rfl
     replace hH := hH.pick [0, 1] (Hs' := [_, _]) rfl
     exact ⟨_, (by rw [hs2]; omega), i + 1, v_t91, N_t91, N_dt91, hA.sub ⟨(by rw [hs2]; rfl), rfl, rfl, rfl, rfl, trivial⟩, hH, by (rw [hs1]; rw [List.nil_append, List.drop_take, show k_t29 + w29.1.toNat - k_t29 = w29.1.toNat by omega, ← hx] at hR_t91; exact hR_t91), rfl⟩
    ·skip
     have hf := fr_mac e3 (by rw [← hF, ← e1]; exact hlong) (by rw [← hF, ← e1]; exact hs80)
     have hst : scanV l = scN l i := scanV_of (by rw [← hz]; exact hf)
     refine p0 hA 17 262143 rfl (fun w => (q_extract rfl rfl)) fun a hA => ?_
     refine p0 hA 18 524287 rfl (fun w => (q_assign rfl)) fun a hA => ?_
     refine p0 hA 19 1048575 rfl (fun w => (q_assign rfl)) fun a hA => ?_
     refine a_end (by kernel_rfl) ?_ _
     refine hK19 _ _ ?_
     clear hK19
     replace hA := hA.sub (E' := [(12, _), (81, _), (80, _), (64, _), (79, _), (78, _), (77, _), (76, _), (75, _), (74, _), (73, _), (72, _), (71, _), (70, _), (69, _), (68, _), (67, _), (66, _), (65, _), (11, _), (63, _), (62, _), (10, _), (61, _), (60, _), (59, _), (58, _), (57, _), (56, _), (55, _), (54, _), (53, _), (52, _), (51, _), (50, _), (49, _), (48, _), (47, _), (46, _), (45, _), (44, _), (43, _), (42, _), (41, _), (40, _), (39, _), (38, _), (37, _), (36, _), (9, _), (35, _), (34, _), (33, _), (32, _), (31, _), (8, _), (30, _), (29, _), (28, _), (7, _), (27, _), (26, _), (6, _), (25, _), (24, _), (23, _), (22, _), (21, _), (20, _), (19, _), (18, _), (17, _), (16, _), (15, _), (14, _), (5, _), (4, _), (3, _), (2, _), (0, _)]) ⟨rfl, rfl, rfl, rfl, rfl, rfl, rfl, rfl, rfl, rfl, rfl, rfl, rfl, rfl, rfl, rfl, rfl, rfl, rfl, rfl, rfl, rfl, rfl, rfl, rfl, rfl, rfl, rfl, rfl, rfl, rfl, rfl, rfl, rfl, rfl, rfl, rfl, rfl, rfl, rfl, rfl, rfl, rfl, rfl, rfl, rfl, rfl, rfl, rfl, rfl, rfl, rfl, rfl, rfl, rfl, rfl, rfl, rfl, rfl, rfl, rfl, rfl, rfl, rfl, rfl, rfl, rfl, rfl, rfl, rfl, rfl, rfl, rfl, rfl, rfl, rfl, rfl, rfl, rfl, rfl, trivial⟩
     refine wp_seq_k fun K22 hK22 => ?_
     refine wp_region_lit ?_
     refine mv hA fun a hA => ?_
     refine sq hA (q_not rfl) rfl fun a hA => ?_
     refine wpList_nil ?_
     refine hK22 _ _ ?_
     clear hK22
     refine cond_t hA rfl ?_
     refine wp_exit ?_
     refine then_exit ?_
     refine exit_out rfl ?_
     refine then_exit ?_
     refine exit_here ?_
     refine hK5 _ _ ?_
     clear hK5
     replace hA := hA.s4 5 4 3 2
     refine wp_seq_k fun K23 hK23 => ?_
     refine wp_region_lit ?_
     refine mv hA fun a hA => ?_
     refine mv hA fun a hA => ?_
     refine asg hA fun a hA => ?_
     refine asg hA fun a hA => ?_
     refine wpList_nil ?_
     refine hK23 _ _ ?_
     clear hK23
     replace hA := hA.s2 3 2
     refine wp_ret ?_
     refine noGoto_ret ?_
     refine post_ret hA (res_2 rfl hA rfl rfl) ?_
     replace hH := hH.pick [3, 4, 0, 1, 2] (Hs' := [_, _, _, _, _]) rfl
     replace hH := hH.pick [0, 1] (Hs' := [_, _]) rfl
     exact ⟨_, rfl, v_o, N_o, N_od, by rw [hst, hz], by rw [hst]; exact hR_o, hH⟩
 ·skip
  have hf : frV (l.drop z) = none := by rw [List.drop_eq_nil_of_le (by omega)]; exact frV_nil
  have hst : scanV l = scN l i := scanV_of (by rw [← hz]; exact hf)
  refine wp_exit ?_
  refine then_exit ?_
  refine then_exit ?_
  refine exit_here ?_
  refine hK5 _ _ ?_
  clear hK5
  replace hA := hA.s4 5 4 3 2
  refine wp_seq_k fun K24 hK24 => ?_
  refine wp_region_lit ?_
  refine mv hA fun a hA => ?_
  refine mv hA fun a hA => ?_
  refine asg hA fun a hA => ?_
  refine asg hA fun a hA => ?_
  refine wpList_nil ?_
  refine hK24 _ _ ?_
  clear hK24
  replace hA := hA.s2 3 2
  refine wp_ret ?_
  refine noGoto_ret ?_
  refine post_ret hA (res_2 rfl hA rfl rfl) ?_
  exact ⟨_, rfl, v_o, N_o, N_od, by rw [hst, hz], by rw [hst]; exact hR_o, hH⟩

end Go.Proofs.YthhdilafnfcpbaaDoor
