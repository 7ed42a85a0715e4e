/- Layer 4 (wire): digests, ends, texts that are read. -/
import Derived.Test.YthhdilafnfcpbaaDoorEb
namespace Go.Proofs.YthhdilafnfcpbaaDoor
open Go
set_option linter.unusedVariables false
set_option linter.unusedSimpArgs false
set_option maxRecDepth 100000


theorem rend_any {w0 : World} (b_r : Nat) (v : Value) (l : Bs) (k e : Nat) (hB : By [b_r] w0 v l) (hk : k ≤ l.length) (hl : l.length ≤ 1048576) (hH : HS [b_r] w0 w0 [[(b_r, Obj.cells [v, I (k), I (e)].toArray 108 (0, 0))]]) :
    Calls Tryd.prog 59 #[(.pointer (some ⟨b_r, 0, none⟩))] w0 (Ret fun r w' => r = I (rEnd (l.drop k, e)).1 ∧ HS [b_r] w0 w' [[(b_r, Obj.cells [v, I (k), I ((rEnd (l.drop k, e)).1)].toArray 108 (0, 0))]]) := by
 refine start (n := 19) (E := [(0, _)]) Tryd.func59 rfl rfl rfl (args_look rfl) ?_
 intro a hA
 refine wp_seq_k fun K1 hK1 => ?_
 refine wp_region_lit ?_
 refine asg hA fun a hA => ?_
 refine wpList_nil ?_
 refine hK1 _ _ ?_
 clear hK1
 refine wp_seq_k fun K2 hK2 => ?_
 refine wp_seq_k fun K3 hK3 => ?_
 refine wp_region_lit ?_
 refine mv hA fun a hA => ?_
 refine sl hA (lo_call fn71 rfl (off_any _ _ _ _ _ (HS.rdM (Ns1 := [_]) hH hB) (by omega) hl (HS.handed (Ns1 := [_]) hH))) rfl ?_
 rintro _ w ⟨rfl, hC⟩ a hA
 replace hH := HS.call (Ns1 := [_]) hH hC
 clear hC
 refine hA.spl (fun hs4 hA => ?_) (fun hs4 hA => ?_)
 ·skip
  have hR := rEnd_off (X := l.drop k) hs4
  refine sq hA (q_not rfl) rfl fun a hA => ?_
  refine mv hA fun a hA => ?_
  refine gs hA rfl rfl rfl rfl fun a hA => ?_
  refine gs hA rfl rfl rfl rfl fun a hA => ?_
  refine gs hA rfl rfl rfl rfl fun a hA => ?_
  refine sq hA (q_pick_f rfl rfl) rfl fun a hA => ?_
  refine wpList_nil ?_
  refine hK3 _ _ ?_
  clear hK3
  replace hA := hA.s3 10 2 0
  refine cond_f hA rfl ?_
  refine wp_skip ?_
  refine hK2 _ _ ?_
  clear hK2
  replace hA := hA.s2 2 0
  refine wp_seq_k fun K4 hK4 => ?_
  refine wp_region_lit ?_
  refine mv hA fun a hA => ?_
  refine sl hA (lo_call fn55 rfl (err_any _ _ _ _ _ (HS.rdM (Ns1 := [_]) hH hB) (by omega) hl (HS.handed (Ns1 := [_]) hH))) rfl ?_
  rintro _ w ⟨rfl, hC⟩ a hA
  replace hH := HS.call (Ns1 := [_]) hH hC
  clear hC
  refine asg hA fun a hA => ?_
  refine wpList_nil ?_
  refine hK4 _ _ ?_
  clear hK4
  replace hA := hA.s1 2
  refine wp_ret ?_
  refine post_ret hA (res_1 rfl hA rfl) ?_
  refine ⟨_, rfl, ?_⟩
  rw [hR]
  exact ⟨rfl, hH⟩
 ·skip
  obtain rfl : e = 0 := by omega
  refine sq hA (q_not rfl) rfl fun a hA => ?_
  refine mv hA fun a hA => ?_
  refine gq hA rfl rfl (q_move rfl) rfl fun a hA => ?_
  refine gl hA rfl rfl (lo_call fn54 rfl (left_any _ _ _ _ _ (HS.rdM (Ns1 := [_]) hH hB) (by omega) hl (HS.handed (Ns1 := [_]) hH))) rfl ?_
  rintro _ w ⟨rfl, hC⟩ a hA
  replace hH := HS.call (Ns1 := [_]) hH hC
  clear hC
  refine gq hA rfl rfl (q_gtrI (n := 0) rfl rfl) rfl fun a hA => ?_
  refine sq hA (q_pick_t rfl rfl) rfl fun a hA => ?_
  refine wpList_nil ?_
  refine hK3 _ _ ?_
  clear hK3
  replace hA := hA.s3 10 2 0
  refine cond_d hA rfl (fun hc10 => ?_) (fun hc10 => ?_)
  ·skip
   have hR := rEnd_rest (X := l.drop k) (by omega)
   refine wp_region_lit ?_
   refine mv hA fun a hA => ?_
   refine mv hA fun a hA => ?_
   refine sq hA (q_nilCheck rfl) rfl fun a hA => ?_
   refine sq hA (q_fld 1 Tryd.underlying108 rfl rfl ti3 rfl) rfl fun a hA => ?_
   refine sq hA (q_loadB hH 0 rfl (List.mem_singleton.2 rfl) Tryd.underlying3 rfl rfl rfl) rfl fun a hA => ?_
   refine sl hA (lo_call fn72 rfl (fails_any _ _ _ _ _ (HS.rdM (Ns1 := [_]) hH hB) (by omega) hl _ _ (HS.handed (Ns1 := [_]) hH))) rfl ?_
   rintro _ w ⟨rfl, hC⟩ a hA
   replace hH := HS.call (Ns1 := [_]) hH hC
   clear hC
   refine wpList_nil ?_
   refine hK2 _ _ ?_
   clear hK2
   replace hA := hA.s2 2 0
   refine wp_seq_k fun K5 hK5 => ?_
   refine wp_region_lit ?_
   refine mv hA fun a hA => ?_
   refine sl hA (lo_call fn55 rfl (err_any _ _ _ _ _ (HS.rdM (Ns1 := [_]) hH hB) (by omega) hl (HS.handed (Ns1 := [_]) hH))) rfl ?_
   rintro _ w ⟨rfl, hC⟩ a hA
   replace hH := HS.call (Ns1 := [_]) hH hC
   clear hC
   refine asg hA fun a hA => ?_
   refine wpList_nil ?_
   refine hK5 _ _ ?_
   clear hK5
   replace hA := hA.s1 2
   refine wp_ret ?_
   refine post_ret hA (res_1 rfl hA rfl) ?_
   refine ⟨_, rfl, ?_⟩
   rw [hR]
   exact ⟨rfl, hH⟩
  ·skip
   first | have hR := rEnd_ok (X := l.drop k) (by omega) | skip
   refine wp_skip ?_
   refine hK2 _ _ ?_
   clear hK2
   replace hA := hA.s2 2 0
   refine wp_seq_k fun K6 hK6 => ?_
   refine wp_region_lit ?_
   refine mv hA fun a hA => ?_
   refine sl hA (lo_call fn55 rfl (err_any _ _ _ _ _ (HS.rdM (Ns1 := [_]) hH hB) (by omega) hl (HS.handed (Ns1 := [_]) hH))) rfl ?_
   rintro _ w ⟨rfl, hC⟩ a hA
   replace hH := HS.call (Ns1 := [_]) hH hC
   clear hC
   refine asg hA fun a hA => ?_
   refine wpList_nil ?_
   refine hK6 _ _ ?_
   clear hK6
   replace hA := hA.s1 2
   refine wp_ret ?_
   refine post_ret hA (res_1 rfl hA rfl) ?_
   refine ⟨_, rfl, ?_⟩
   rw [hR]
   exact ⟨rfl, hH⟩

end Go.Proofs.YthhdilafnfcpbaaDoor
