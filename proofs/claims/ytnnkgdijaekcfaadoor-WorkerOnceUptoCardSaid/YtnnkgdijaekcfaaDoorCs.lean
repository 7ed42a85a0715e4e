/- Layer 5 (ots): the same digests? -/
import Derived.Test.YtnnkgdijaekcfaaDoorBi
import Derived.Test.YtnnkgdijaekcfaaDoorMzc
namespace Go.Proofs.YtnnkgdijaekcfaaDoor
open Go
set_option linter.unusedVariables false
set_option linter.unusedSimpArgs false
set_option maxRecDepth 100000

theorem sameD_any {w0 : World} (u v : Value) (p q : List Bs) (hdp : Dg p) (hdq : Dg q) (hp : RdD [] w0 u p) (hq : RdD [] w0 v q) (hl : p.length ≤ 1048576) (hm : q.length ≤ 1048576) :
    Calls Tryd.prog 99 #[u, v] w0 (Ret fun r w' => r = .bool (decide (p = q)) ∧ HS [] w0 w' []) := by
 have hH := HS.start w0
 refine start (n := 26) (E := [(0, _), (1, _)]) Tryd.func99 rfl rfl rfl (args_look rfl) ?_
 intro a hA
 refine wp_seq_k fun K1 hK1 => ?_
 refine wp_region_lit ?_
 refine asg hA fun a hA => ?_
 refine wpList_nil ?_
 refine hK1 _ _ ?_
 clear hK1
 refine wp_seq_k fun K2 hK2 => ?_
 refine wp_seq_k fun K3 hK3 => ?_
 refine wp_region_lit ?_
 refine mv hA fun a hA => ?_
 refine sq hA (q_len Tryd.underlying25 rfl (Rd.shp hp)) rfl fun a hA => ?_
 refine mv hA fun a hA => ?_
 refine sq hA (q_len Tryd.underlying25 rfl (Rd.shp hq)) rfl fun a hA => ?_
 refine sq hA (q_neqI rfl rfl) rfl fun a hA => ?_
 refine wpList_nil ?_
 refine hK3 _ _ ?_
 clear hK3
 replace hA := hA.s4 10 4 0 1
 refine cond_d hA rfl (fun hc10 => ?_) (fun hc10 => ?_)
 ·skip
  have hne : ¬ p = q := fun e => hc10 (by rw [e])
  refine wp_seq_k fun K4 hK4 => ?_
  refine wp_region_lit ?_
  refine asg hA fun a hA => ?_
  refine wpList_nil ?_
  refine hK4 _ _ ?_
  clear hK4
  replace hA := hA.s3 4 0 1
  refine wp_ret ?_
  refine then_ret ?_
  refine post_ret hA (res_1 rfl hA rfl) ?_
  exact ⟨_, rfl, by simp [hne], hH⟩
 ·skip
  have hlen : p.length = q.length := by omega
  refine wp_skip ?_
  refine hK2 _ _ ?_
  clear hK2
  replace hA := hA.s3 4 0 1
  refine wp_seq_k fun K5 hK5 => ?_
  refine wp_seq_k fun K6 hK6 => ?_
  refine wp_region_lit ?_
  refine asg hA fun a hA => ?_
  refine wpList_nil ?_
  refine hK6 _ _ ?_
  clear hK6
  refine wp_block ?_
  refine wp_loop_ghost (fun gm a w => ∃ i : Nat, At 26 [(5, I i), (4, (.bool false)), (0, u), (1, v)] a ∧ HS [] w0 w ([]) ∧ (i ≤ p.length) ∧ (p.take i = q.take i) ∧ gm = p.length - i) (p.length - (0)) ⟨0, hA.sub ⟨rfl, rfl, rfl, rfl, trivial⟩, hH, by omega, by simp, rfl⟩ ?_
  clear hA hH
  rintro gm a w ⟨i, hA, hH, hi, ht, rfl⟩
  refine wp_seq_k fun K7 hK7 => ?_
  refine wp_seq_k fun K8 hK8 => ?_
  refine wp_region_lit ?_
  refine mv hA fun a hA => ?_
  refine mv hA fun a hA => ?_
  refine sq hA (q_len Tryd.underlying25 rfl (Rd.shp hp)) rfl fun a hA => ?_
  refine sq hA (q_lssI rfl rfl) rfl fun a hA => ?_
  refine wpList_nil ?_
  refine hK8 _ _ ?_
  clear hK8
  refine cond_d hA rfl (fun hc14 => ?_) (fun hc14 => ?_)
  ·skip
   refine wp_skip ?_
   refine hK7 _ _ ?_
   clear hK7
   refine wp_seq_k fun K9 hK9 => ?_
   refine wp_block ?_
   refine wp_seq_k fun K10 hK10 => ?_
   refine any_go mixed (fun _ => true) hH ?_
   clear hH; intro w hH
   have hS := hH
   refine any_l 9 ?_
   refine p0 hA 0 1 rfl (fun w => (q_move rfl)) fun a hA => ?_
   refine p0 hA 1 3 rfl (fun w => (q_move rfl)) fun a hA => ?_
   have hpi := hdp.getD (i := i) (by omega)
   have hqi := hdq.getD (i := i) (by omega)
   refine p0 hA 2 7 rfl (fun w => (q_idxk (i) Tryd.underlying25 ti24 rfl rfl (by first | omega | rfl) (Rd.shp hp) (by first | omega | (simp; done) | (simp; omega) | (rw [List.length_map]; assumption) | assumption | rfl | (simp [*]; done) | (simp [*]; omega)))) fun a hA => ?_
   refine r0 hA 3 15 rfl hS (fun w hH => (q_loadRA (i := i) Tryd.underlying24 rfl ti24 rfl (hH.rd hp) (by first | omega | (simp; done) | (simp; omega) | (rw [List.length_map]; assumption) | assumption | rfl | (simp [*]; done) | (simp [*]; omega)) _ (dc_at (by assumption) (by first | omega | (simp; done) | (simp; omega) | (rw [List.length_map]; assumption) | assumption | rfl | (simp [*]; done) | (simp [*]; omega))))) fun a hA => ?_
   refine p0 hA 4 31 rfl (fun w => (q_move rfl)) fun a hA => ?_
   refine p0 hA 5 63 rfl (fun w => (q_move rfl)) fun a hA => ?_
   refine p0 hA 6 127 rfl (fun w => (q_idxk (i) Tryd.underlying25 ti24 rfl rfl (by first | omega | rfl) (Rd.shp hq) (by first | omega | (simp; done) | (simp; omega) | (rw [List.length_map]; assumption) | assumption | rfl | (simp [*]; done) | (simp [*]; omega)))) fun a hA => ?_
   refine r0 hA 7 255 rfl hS (fun w hH => (q_loadRA (i := i) Tryd.underlying24 rfl ti24 rfl (hH.rd hq) (by first | omega | (simp; done) | (simp; omega) | (rw [List.length_map]; assumption) | assumption | rfl | (simp [*]; done) | (simp [*]; omega)) _ (dc_at (by assumption) (by first | omega | (simp; done) | (simp; omega) | (rw [List.length_map]; assumption) | assumption | rfl | (simp [*]; done) | (simp [*]; omega))))) fun a hA => ?_
   refine p0 hA 8 511 rfl (fun w => (q_neqA8 eqa24 rfl rfl rfl rfl (by first | assumption | (rw [List.length_map]; assumption) | rfl | exact sha_length _ | (simp; done) | (simp [*]; done) | omega) (by first | assumption | (rw [List.length_map]; assumption) | rfl | exact sha_length _ | (simp; done) | (simp [*]; done) | omega))) fun a hA => ?_
   refine a_end (by kernel_rfl) ?_ _
   refine hK10 _ _ ?_
   clear hK10
   refine cond_d hA rfl (fun hc25 => ?_) (fun hc25 => ?_)
   ·skip
    have hne : ¬ p = q := fun e => hc25 (by rw [e])
    refine wp_seq_k fun K11 hK11 => ?_
    refine wp_region_lit ?_
    refine asg hA fun a hA => ?_
    refine wpList_nil ?_
    refine hK11 _ _ ?_
    clear hK11
    refine wp_ret ?_
    refine block_ret ?_
    refine then_ret ?_
    refine then_ret ?_
    refine block_ret ?_
    refine then_ret ?_
    refine post_ret hA (res_1 rfl hA rfl) ?_
    exact ⟨_, rfl, by simp [hne], hH⟩
   ·skip
    have heq : p.getD i [] = q.getD i [] := Classical.byContradiction hc25
    refine wp_skip ?_
    refine block_normal ?_
    refine hK9 _ _ ?_
    clear hK9
    refine wp_region_lit ?_
    refine mv hA fun a hA => ?_
    refine sq hA (q_addI (n := 1) rfl rfl (by omega)) rfl fun a hA => ?_
    refine asg hA fun a hA => ?_
    refine wpList_nil ?_
    exact ⟨_, by omega, i + 1, hA.sub ⟨rfl, rfl, rfl, rfl, trivial⟩, hH, by omega, by (rw [take_snoc (d := []) p (by omega), take_snoc (d := []) q (by omega), ht, heq]), rfl⟩
  ·skip
   refine wp_exit ?_
   refine then_exit ?_
   refine then_exit ?_
   refine exit_here ?_
   refine hK5 _ _ ?_
   clear hK5
   replace hA := hA.s1 4
   refine wp_seq_k fun K12 hK12 => ?_
   refine wp_region_lit ?_
   refine asg hA fun a hA => ?_
   refine wpList_nil ?_
   refine hK12 _ _ ?_
   clear hK12
   refine wp_ret ?_
   refine post_ret hA (res_1 rfl hA rfl) ?_
   have : i = p.length := by omega
   subst this
   have he : p = q := by have h1 := ht; rw [List.take_length, hlen, List.take_length] at h1; exact h1
   exact ⟨_, rfl, by simp [he], hH⟩

end Go.Proofs.YtnnkgdijaekcfaaDoor
