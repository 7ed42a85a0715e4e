/- Layer 12 (vault): the law VaultNil. -/
import Derived.Test.YthhdilafnfcpbaaDoorJl
namespace Go.Proofs.YthhdilafnfcpbaaDoor
open Go
set_option linter.unusedVariables false
set_option linter.unusedSimpArgs false
set_option maxRecDepth 100000

theorem vaultNil_any {w0 : World} {lv : Nat} (hg : Gl lv w0) (v : Value) (l : Bs) (hr : By [] w0 v l) (hl : l.length ≤ 1048576) :
    Calls Tryd.prog 7 #[v] w0 (Ret fun r w' => r = .bool true ∧ HS [] w0 w' []) := by
 have hH := HS.start w0
 refine start (n := 48) (E := [(0, _)]) Tryd.func7 rfl rfl rfl (args_look rfl) ?_
 intro a hA
 refine wp_seq_k fun K1 hK1 => ?_
 refine wp_region_lit ?_
 refine asg hA fun a hA => ?_
 refine wpList_nil ?_
 refine hK1 _ _ ?_
 clear hK1
 refine wp_seq_k fun K2 hK2 => ?_
 refine wp_region_lit ?_
 refine asg hA fun a hA => ?_
 refine wpList_nil ?_
 refine hK2 _ _ ?_
 clear hK2
 refine wp_seq_k fun K3 hK3 => ?_
 refine wp_region_lit ?_
 refine sl hA (lo_call fn13 rfl (open_nil)) rfl ?_
 rintro _ w ⟨rfl, hC⟩ a hA
 replace hH := HS.call0 hH hC
 clear hC
 refine mv hA fun a hA => ?_
 refine sq hA (q_extract rfl rfl) rfl fun a hA => ?_
 refine sq hA (q_extract rfl rfl) rfl fun a hA => ?_
 refine asg hA fun a hA => ?_
 refine asg hA fun a hA => ?_
 refine wpList_nil ?_
 refine hK3 _ _ ?_
 clear hK3
 replace hA := hA.s5 5 4 3 2 0
 refine wp_seq_k fun K4 hK4 => ?_
 refine wp_region_lit ?_
 refine mv hA fun a hA => ?_
 refine sq hA (q_nilNil Tryd.underlying27 rfl rfl) rfl fun a hA => ?_
 refine mv hA fun a hA => ?_
 refine gq hA rfl rfl (q_move rfl) rfl fun a hA => ?_
 refine gq hA rfl rfl (q_eqlI (n := 2) rfl rfl) rfl fun a hA => ?_
 refine sq hA (q_pick_t rfl rfl) rfl fun a hA => ?_
 replace hA := hA.decT (by first | rfl | omega | assumption | (simp; done) | (simp [*]; done))
 refine mv hA fun a hA => ?_
 refine gq hA rfl rfl (q_move rfl) rfl fun a hA => ?_
 refine gq hA rfl rfl (q_move rfl) rfl fun a hA => ?_
 refine gl hA rfl rfl (lo_call fn18 rfl (lown12_any _ _ (hH.rd hr) (by first | omega | (simp; done) | (simp; omega)))) rfl ?_
 rintro _ w ⟨v_t19, N_t19, rfl, hO_t19, hC⟩ a hA
 replace hH := HS.call0 hH hC
 clear hC
 refine gl hA rfl rfl (lo_call fn22 rfl (add_nil _ (Own.one hO_t19))) rfl ?_
 rintro _ w ⟨rfl, hC⟩ a hA
 replace hH := HS.call0 hH hC
 clear hC
 refine gq hA rfl rfl (q_eqlI (n := 2) rfl rfl) rfl fun a hA => ?_
 refine sq hA (q_pick_t rfl rfl) rfl fun a hA => ?_
 replace hA := hA.decT (by first | rfl | omega | assumption | (simp; done) | (simp [*]; done))
 refine mv hA fun a hA => ?_
 refine gq hA rfl rfl (q_move rfl) rfl fun a hA => ?_
 refine gq hA rfl rfl (q_move rfl) rfl fun a hA => ?_
 refine gl hA rfl rfl (lo_call fn18 rfl (lown12_any _ _ (hH.rd hr) (by first | omega | (simp; done) | (simp; omega)))) rfl ?_
 rintro _ w ⟨v_t26, N_t26, rfl, hO_t26, hC⟩ a hA
 replace hH := HS.call0 hH hC
 clear hC
 refine gl hA rfl rfl (lo_call fn24 rfl (save_nil _ (Own.one hO_t26))) rfl ?_
 rintro _ w ⟨rfl, hC⟩ a hA
 replace hH := HS.call0 hH hC
 clear hC
 refine gq hA rfl rfl (q_eqlI (n := 2) rfl rfl) rfl fun a hA => ?_
 refine sq hA (q_pick_t rfl rfl) rfl fun a hA => ?_
 replace hA := hA.decT (by first | rfl | omega | assumption | (simp; done) | (simp [*]; done))
 refine mv hA fun a hA => ?_
 refine gq hA rfl rfl (q_move rfl) rfl fun a hA => ?_
 refine gl hA rfl rfl (lo_call fn25 rfl (gen_nil)) rfl ?_
 rintro _ w ⟨rfl, hC⟩ a hA
 replace hH := HS.call0 hH hC
 clear hC
 refine gq hA rfl rfl (q_eqlI (n := 0) rfl rfl) rfl fun a hA => ?_
 refine sq hA (q_pick_t rfl rfl) rfl fun a hA => ?_
 replace hA := hA.decT (by first | rfl | omega | assumption | (simp; done) | (simp [*]; done))
 refine mv hA fun a hA => ?_
 refine gq hA rfl rfl (q_move rfl) rfl fun a hA => ?_
 refine gl hA rfl rfl (lo_call fn26 rfl (vtext_nil)) rfl ?_
 rintro _ w ⟨rfl, hC⟩ a hA
 replace hH := HS.call0 hH hC
 clear hC
 refine gq hA rfl rfl (q_lenV Tryd.underlying32 rfl) rfl fun a hA => ?_
 refine gq hA rfl rfl (q_move rfl) rfl fun a hA => ?_
 refine gl hA rfl rfl (lo_call fn23 rfl (recs_nil)) rfl ?_
 rintro _ w ⟨rfl, hC⟩ a hA
 replace hH := HS.call0 hH hC
 clear hC
 refine gq hA rfl rfl (q_lenV Tryd.underlying33 rfl) rfl fun a hA => ?_
 refine gq hA rfl rfl (q_addI rfl rfl (by omega)) rfl fun a hA => ?_
 refine gq hA rfl rfl (q_eqlI (n := 0) rfl rfl) rfl fun a hA => ?_
 refine sq hA (q_pick_t rfl rfl) rfl fun a hA => ?_
 replace hA := hA.decT (by first | rfl | omega | assumption | (simp; done) | (simp [*]; done))
 refine mv hA fun a hA => ?_
 refine gl hA rfl rfl (lo_call fn11 rfl (awake12_any (hg.mono0 hH))) rfl ?_
 rintro _ w ⟨rfl, hC⟩ a hA
 replace hH := HS.call0 hH hC
 clear hC
 refine sq hA (q_pick_t rfl rfl) rfl fun a hA => ?_
 refine asg hA fun a hA => ?_
 refine wpList_nil ?_
 refine hK4 _ _ ?_
 clear hK4
 replace hA := hA.s1 2
 refine wp_ret ?_
 refine post_ret hA (res_1 rfl hA rfl) ?_
 replace hH := hH.pick [] (Hs' := []) rfl
 exact ⟨_, rfl, rfl, hH⟩

end Go.Proofs.YthhdilafnfcpbaaDoor
