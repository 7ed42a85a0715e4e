/- Layer 12 (vault): the law VaultPlays. -/
import Derived.Test.YthhdilafnfcpbaaDoorJp
import Derived.Test.YthhdilafnfcpbaaDoorVz
namespace Go.Proofs.YthhdilafnfcpbaaDoor
open Go
set_option linter.unusedVariables false
set_option linter.unusedSimpArgs false
set_option maxRecDepth 100000

theorem long12_any {w0 : World} (v : Value) (cl : List CallE) (hcr : RdCl [] w0 v cl) (hcn : cl.length ≤ 1048576) :
    Calls Tryd.prog 10 #[v] w0 (Ret fun r w' => ∃ b, r = .bool (decide (b = true)) ∧ (b = false → cl.length ≤ 40 ∧ (∀ e ∈ cl, e.b.length ≤ 500 ∧ e.ks.length ≤ 10)) ∧ HS [] w0 w' []) := by
 have hH := HS.start w0
 refine start (n := 29) (E := [(0, _)]) Tryd.func10 rfl rfl rfl (args_look rfl) ?_
 intro a hA
 refine wp_seq_k fun K1 hK1 => ?_
 refine wp_region_lit ?_
 refine asg hA fun a hA => ?_
 refine wpList_nil ?_
 refine hK1 _ _ ?_
 clear hK1
 refine wp_seq_k fun K2 hK2 => ?_
 refine wp_seq_k fun K3 hK3 => ?_
 refine wp_region_lit ?_
 refine mv hA fun a hA => ?_
 refine sq hA (q_len Tryd.underlying22 rfl (Rd.shp hcr.1)) rfl fun a hA => ?_
 refine sq hA (q_gtrI (n := 40) rfl rfl) rfl fun a hA => ?_
 refine wpList_nil ?_
 refine hK3 _ _ ?_
 clear hK3
 replace hA := hA.s3 6 2 0
 refine cond_d hA rfl (fun hc6 => ?_) (fun hc6 => ?_)
 ·skip
  refine wp_seq_k fun K4 hK4 => ?_
  refine wp_region_lit ?_
  refine asg hA fun a hA => ?_
  refine wpList_nil ?_
  refine hK4 _ _ ?_
  clear hK4
  replace hA := hA.s2 2 0
  refine wp_ret ?_
  refine then_ret ?_
  refine post_ret hA (res_1 rfl hA rfl) ?_
  first | exact ⟨_, rfl, false, rfl, fun _ => ⟨by omega, hall⟩, hH⟩ | exact ⟨_, rfl, true, rfl, (fun h => by cases h), hH⟩
 ·skip
  refine wp_skip ?_
  refine hK2 _ _ ?_
  clear hK2
  replace hA := hA.s2 2 0
  refine wp_seq_k fun K5 hK5 => ?_
  refine wp_seq_k fun K6 hK6 => ?_
  refine wp_region_lit ?_
  refine asg hA fun a hA => ?_
  refine wpList_nil ?_
  refine hK6 _ _ ?_
  clear hK6
  refine wp_block ?_
  refine wp_loop_ghost (fun gm a w => ∃ i : Nat, At 29 [(3, I i), (2, (.bool false)), (0, v)] a ∧ HS [] w0 w ([]) ∧ (i ≤ cl.length) ∧ (∀ e ∈ cl.take i, e.b.length ≤ 500 ∧ e.ks.length ≤ 10) ∧ gm = cl.length - i) (cl.length - (0)) ⟨0, hA.sub ⟨rfl, rfl, rfl, trivial⟩, hH, by omega, by (intro e he; simp at he), rfl⟩ ?_
  clear hA hH
  rintro gm a w ⟨i, hA, hH, hi, hall, rfl⟩
  refine wp_seq_k fun K7 hK7 => ?_
  refine wp_seq_k fun K8 hK8 => ?_
  refine wp_region_lit ?_
  refine mv hA fun a hA => ?_
  refine mv hA fun a hA => ?_
  refine sq hA (q_len Tryd.underlying22 rfl (Rd.shp hcr.1)) rfl fun a hA => ?_
  refine sq hA (q_lssI rfl rfl) rfl fun a hA => ?_
  refine wpList_nil ?_
  refine hK8 _ _ ?_
  clear hK8
  refine cond_d hA rfl (fun hc10 => ?_) (fun hc10 => ?_)
  ·skip
   obtain ⟨e, hem, hei, hE3, hE0, hE1, hE2, he⟩ := hcr.get (i := i) (by omega)
   refine wp_skip ?_
   refine hK7 _ _ ?_
   clear hK7
   refine wp_seq_k fun K9 hK9 => ?_
   refine wp_block ?_
   refine wp_seq_k fun K10 hK10 => ?_
   refine wp_region_lit ?_
   refine mv hA fun a hA => ?_
   refine mv hA fun a hA => ?_
   refine sq hA (q_idxk (i) Tryd.underlying22 ti39 rfl rfl (by first | omega | rfl) (Rd.shp hcr.1) (by first | omega | (simp; done) | (simp; omega) | (rw [List.length_map]; assumption) | assumption | rfl | (simp [*]; done) | (simp [*]; omega))) rfl fun a hA => ?_
   refine sq hA (q_fldE 1 Tryd.underlying39 rfl rfl ti32 rfl) rfl fun a hA => ?_
   refine sq hA (q_loadR Tryd.underlying32 rfl rfl (hH.rd hcr.1) (by omega) hE1) rfl fun a hA => ?_
   refine sq hA (q_len Tryd.underlying32 rfl (Rd.shp he.1)) rfl fun a hA => ?_
   refine sq hA (q_gtrI (n := 500) rfl rfl) rfl fun a hA => ?_
   refine hA.spl (fun hs19 hA => ?_) (fun hs19 hA => ?_)
   ·skip
    refine mv hA fun a hA => ?_
    refine gs hA rfl rfl rfl rfl fun a hA => ?_
    refine gs hA rfl rfl rfl rfl fun a hA => ?_
    refine gs hA rfl rfl rfl rfl fun a hA => ?_
    refine gs hA rfl rfl rfl rfl fun a hA => ?_
    refine gs hA rfl rfl rfl rfl fun a hA => ?_
    refine gs hA rfl rfl rfl rfl fun a hA => ?_
    refine gs hA rfl rfl rfl rfl fun a hA => ?_
    refine sq hA (q_pick_t rfl rfl) rfl fun a hA => ?_
    refine wpList_nil ?_
    refine hK10 _ _ ?_
    clear hK10
    refine cond_t hA rfl ?_
    refine wp_seq_k fun K11 hK11 => ?_
    refine wp_region_lit ?_
    refine asg hA fun a hA => ?_
    refine wpList_nil ?_
    refine hK11 _ _ ?_
    clear hK11
    refine wp_ret ?_
    refine block_ret ?_
    refine then_ret ?_
    refine then_ret ?_
    refine block_ret ?_
    refine then_ret ?_
    refine post_ret hA (res_1 rfl hA rfl) ?_
    first | exact ⟨_, rfl, false, rfl, fun _ => ⟨by omega, hall⟩, hH⟩ | exact ⟨_, rfl, true, rfl, (fun h => by cases h), hH⟩
   ·skip
    refine mv hA fun a hA => ?_
    refine gq hA rfl rfl (q_move rfl) rfl fun a hA => ?_
    refine gq hA rfl rfl (q_move rfl) rfl fun a hA => ?_
    refine gq hA rfl rfl (q_idxk (i) Tryd.underlying22 ti39 rfl rfl (by first | omega | rfl) (Rd.shp hcr.1) (by first | omega | (simp; done) | (simp; omega) | (rw [List.length_map]; assumption) | assumption | rfl | (simp [*]; done) | (simp [*]; omega))) rfl fun a hA => ?_
    refine gq hA rfl rfl (q_fldE 2 Tryd.underlying39 rfl rfl ti37 rfl) rfl fun a hA => ?_
    refine gq hA rfl rfl (q_loadR Tryd.underlying37 rfl rfl (hH.rd hcr.1) (by omega) hE2) rfl fun a hA => ?_
    refine gq hA rfl rfl (q_len Tryd.underlying37 rfl (Rd.shp he.2.1)) rfl fun a hA => ?_
    refine gq hA rfl rfl (q_gtrI (n := 10) rfl rfl) rfl fun a hA => ?_
    refine sq hA (q_pick_f rfl rfl) rfl fun a hA => ?_
    refine wpList_nil ?_
    refine hK10 _ _ ?_
    clear hK10
    refine cond_d hA rfl (fun hc28 => ?_) (fun hc28 => ?_)
    ·skip
     refine wp_seq_k fun K12 hK12 => ?_
     refine wp_region_lit ?_
     refine asg hA fun a hA => ?_
     refine wpList_nil ?_
     refine hK12 _ _ ?_
     clear hK12
     refine wp_ret ?_
     refine block_ret ?_
     refine then_ret ?_
     refine then_ret ?_
     refine block_ret ?_
     refine then_ret ?_
     refine post_ret hA (res_1 rfl hA rfl) ?_
     first | exact ⟨_, rfl, false, rfl, fun _ => ⟨by omega, hall⟩, hH⟩ | exact ⟨_, rfl, true, rfl, (fun h => by cases h), hH⟩
    ·skip
     refine wp_skip ?_
     refine block_normal ?_
     refine hK9 _ _ ?_
     clear hK9
     refine wp_region_lit ?_
     refine mv hA fun a hA => ?_
     refine sq hA (q_addI (n := 1) rfl rfl (by omega)) rfl fun a hA => ?_
     refine asg hA fun a hA => ?_
     refine wpList_nil ?_
     exact ⟨_, by omega, i + 1, hA.sub ⟨rfl, rfl, rfl, trivial⟩, hH, by omega, by (intro e' he'; rw [List.take_add_one, hei] at he'; rcases List.mem_append.1 he' with h | h; exact hall e' h; (have : e' = e := by simpa using h); subst this; exact ⟨by omega, by omega⟩), rfl⟩
  ·skip
   obtain rfl : i = cl.length := by omega
   rw [List.take_length] at hall
   refine wp_exit ?_
   refine then_exit ?_
   refine then_exit ?_
   refine exit_here ?_
   refine hK5 _ _ ?_
   clear hK5
   replace hA := hA.s1 2
   refine wp_seq_k fun K13 hK13 => ?_
   refine wp_region_lit ?_
   refine asg hA fun a hA => ?_
   refine wpList_nil ?_
   refine hK13 _ _ ?_
   clear hK13
   refine wp_ret ?_
   refine post_ret hA (res_1 rfl hA rfl) ?_
   first | exact ⟨_, rfl, false, rfl, fun _ => ⟨by omega, hall⟩, hH⟩ | exact ⟨_, rfl, true, rfl, (fun h => by cases h), hH⟩

end Go.Proofs.YthhdilafnfcpbaaDoor
