/- Layer 2 (sha): the laws of chapter 02. -/
import Derived.Test.YtegjkoohpkchbaaDoorTa
import Derived.Test.YtegjkoohpkchbaaDoorTb
import Derived.Test.YtegjkoohpkchbaaDoorLh
import Derived.Test.YtegjkoohpkchbaaDoorMa
import Derived.Test.YtegjkoohpkchbaaDoorMb
import Derived.Test.YtegjkoohpkchbaaDoorMc
import Derived.Test.YtegjkoohpkchbaaDoorBa
import Derived.Test.YtegjkoohpkchbaaDoorBb
import Derived.Test.YtegjkoohpkchbaaDoorBc
import Derived.Test.YtegjkoohpkchbaaDoorBd
import Derived.Test.YtegjkoohpkchbaaDoorMd
namespace Go.Proofs.YtegjkoohpkchbaaDoor
open Go
set_option linter.unusedVariables false
set_option linter.unusedSimpArgs false
set_option maxRecDepth 100000

theorem awake_any {w0 : World} {lv : Nat} (hg : Gl lv w0) :
    Calls Tryd.prog 15 #[] w0 (Ret fun r w' => r = .bool true ∧ HS [] w0 w' []) := by
  have hH := HS.start w0
  refine start (n := 17) (E := []) Tryd.func15 rfl rfl rfl (args_look rfl) ?_
  intro a hA
  refine wp_seq_k fun K1 hK1 => ?_
  refine wp_region_lit ?_
  refine sq hA (q_assign rfl) rfl fun a hA => ?_
  refine wpList_nil ?_
  refine hK1 _ _ ?_
  clear hK1
  refine wp_seq_k fun K2 hK2 => ?_
  refine wp_region_lit ?_
  refine sl hA (lo_bs (f := B8) (e := 5) ([97#8, 98#8, 99#8]) hH rfl rfl (fun w => by kernel_rfl)) rfl ?_
  clear hH; rintro v_t2 w ⟨N_t2, hO_t2, hH⟩ a hA
  refine sl hA (lo_call fn16 rfl (sum_any (hg.mono0 hH) _ ([97#8, 98#8, 99#8]) (Own.rd0 hO_t2 hH 0 rfl) (by simp))) rfl ?_
  rintro _ w ⟨rfl, hC⟩ a hA
  replace hH := HS.call0 hH hC
  clear hC
  refine sl hA (lo_allocA hH ti25) rfl ?_
  clear hH; rintro _ w ⟨b_t1, rfl, hH⟩ a hA
  refine s0 hA (lo_storeAm hH ti25 rfl rfl (by first | rfl | (simp; done)) (by first | rfl | (simp; done)) (one_B8 _)) ?_
  clear hH; rintro _ w hH
  refine wpList_nil ?_
  refine hK2 _ _ ?_
  clear hK2
  replace hA := hA.sub (E' := [(1, _), (0, _)]) ⟨rfl, rfl, trivial⟩
  refine wp_seq_k fun K3 hK3 => ?_
  refine wp_region_lit ?_
  refine sq hA (q_idxA1 (0) Tryd.underlying25 ti5 rfl rfl (rfl) (by first | omega | (simp; done) | (simp; omega) | (simp [*]; done) | (simp [*]; omega))) rfl fun a hA => ?_
  refine sq hA (q_loadBm (0#8) hH 0 rfl Tryd.underlying5 rfl rfl (by first | omega | (simp; done) | (simp; omega) | (simp [*]; done) | (simp [*]; omega))) rfl fun a hA => ?_
  refine sq hA (Runs.bt (q_eql8 (q := 186#8) rfl rfl) (by exact abc_0)) rfl fun a hA => ?_
  refine sq hA (q_move rfl) rfl fun a hA => ?_
  refine gq hA rfl rfl (q_idxA1 (1) Tryd.underlying25 ti5 rfl rfl (rfl) (by first | omega | (simp; done) | (simp; omega) | (simp [*]; done) | (simp [*]; omega))) rfl fun a hA => ?_
  refine gq hA rfl rfl (q_loadBm (0#8) hH 0 rfl Tryd.underlying5 rfl rfl (by first | omega | (simp; done) | (simp; omega) | (simp [*]; done) | (simp [*]; omega))) rfl fun a hA => ?_
  refine gq hA rfl rfl (Runs.bt (q_eql8 (q := 120#8) rfl rfl) (by exact abc_1)) rfl fun a hA => ?_
  refine sq hA (q_pick_t rfl rfl) rfl fun a hA => ?_
  refine sq hA (q_move rfl) rfl fun a hA => ?_
  refine gq hA rfl rfl (q_idxA1 (31) Tryd.underlying25 ti5 rfl rfl (rfl) (by first | omega | (simp; done) | (simp; omega) | (simp [*]; done) | (simp [*]; omega))) rfl fun a hA => ?_
  refine gq hA rfl rfl (q_loadBm (0#8) hH 0 rfl Tryd.underlying5 rfl rfl (by first | omega | (simp; done) | (simp; omega) | (simp [*]; done) | (simp [*]; omega))) rfl fun a hA => ?_
  refine gq hA rfl rfl (Runs.bt (q_eql8 (q := 173#8) rfl rfl) (by exact abc_31)) rfl fun a hA => ?_
  refine sq hA (q_pick_t rfl rfl) rfl fun a hA => ?_
  refine sq hA (q_assign rfl) rfl fun a hA => ?_
  refine wpList_nil ?_
  refine hK3 _ _ ?_
  clear hK3
  replace hA := hA.sub (E' := [(0, _)]) ⟨rfl, trivial⟩
  refine wp_ret ?_
  refine post_ret hA (res_1 rfl hA rfl) ?_
  replace hH := hH.pick [] (Hs' := []) rfl
  exact ⟨_, rfl, rfl, hH⟩

theorem shaSums_any {w0 : World} (hg : Gl 2 w0) (v : Value) (l : Bs) (hr : By [] w0 v l) (hl : l.length ≤ 1048576) :
    Calls Tryd.prog 3 #[v] w0 (Ret fun r w' => r = .bool true ∧ HS [] w0 w' []) := by
  have hH := HS.start w0
  refine start (n := 17) (E := [(0, _)]) Tryd.func3 rfl rfl rfl (args_look rfl) ?_
  intro a hA
  refine wp_seq_k fun K1 hK1 => ?_
  refine wp_region_lit ?_
  refine sq hA (q_assign rfl) rfl fun a hA => ?_
  refine wpList_nil ?_
  refine hK1 _ _ ?_
  clear hK1
  refine wp_seq_k fun K2 hK2 => ?_
  refine wp_seq_k fun K3 hK3 => ?_
  refine wp_region_lit ?_
  refine sq hA (q_move rfl) rfl fun a hA => ?_
  refine sq hA (q_len Tryd.underlying22 rfl (Rd.shp hr)) rfl fun a hA => ?_
  refine sq hA (q_gtrI (n := 1000) rfl rfl) rfl fun a hA => ?_
  refine wpList_nil ?_
  refine hK3 _ _ ?_
  clear hK3
  replace hA := hA.sub (E' := [(5, _), (2, _), (0, _)]) ⟨rfl, rfl, rfl, trivial⟩
  refine cond_d hA rfl (fun hc5 => ?_) (fun hc5 => ?_)
  · skip
    refine wp_seq_k fun K4 hK4 => ?_
    refine wp_region_lit ?_
    refine sl hA (lo_call fn15 rfl (awake_any (hg.mono0 hH))) rfl ?_
    rintro _ w ⟨rfl, hC⟩ a hA
    replace hH := HS.call0 hH hC
    clear hC
    refine sq hA (q_assign rfl) rfl fun a hA => ?_
    refine wpList_nil ?_
    refine hK4 _ _ ?_
    clear hK4
    replace hA := hA.sub (E' := [(2, _), (0, _)]) ⟨rfl, rfl, trivial⟩
    refine wp_ret ?_
    refine then_ret ?_
    refine post_ret hA (res_1 rfl hA rfl) ?_
    exact ⟨_, rfl, rfl, hH⟩
  · skip
    refine wp_skip ?_
    refine hK2 _ _ ?_
    clear hK2
    replace hA := hA.sub (E' := [(2, _), (0, _)]) ⟨rfl, rfl, trivial⟩
    refine wp_seq_k fun K5 hK5 => ?_
    refine wp_region_lit ?_
    refine sl hA (lo_bs (f := B8) (e := 5) ([]) hH rfl rfl (fun w => by kernel_rfl)) rfl ?_
    clear hH; rintro v_t7 w ⟨N_t7, hO_t7, hH⟩ a hA
    refine sq hA (q_move rfl) rfl fun a hA => ?_
    refine sl hA (lo_appm hH Tryd.underlying22 Tryd.underlying22 (.inl rfl) ti5 rfl rfl rfl hO_t7 (Rd.src (hH.rd hr)) (one_B8 _) (by first | omega | (simp; done) | (simp; omega)) (by first | omega | (simp; done) | (simp; omega))) rfl ?_
    clear hH; rintro v_t9 w ⟨N_t9, hO_t9, hH⟩ a hA
    refine sl hA (lo_call fn16 rfl (sum_any (hg.mono0 hH) _ (l) (Own.rd0 hO_t9 hH 0 rfl) (by omega))) rfl ?_
    rintro _ w ⟨rfl, hC⟩ a hA
    replace hH := HS.call0 hH hC
    clear hC
    refine sq hA (q_move rfl) rfl fun a hA => ?_
    refine sl hA (lo_call fn17 rfl (refsum_any (hg.mono0 hH) _ (l) (hH.rd hr) (by omega))) rfl ?_
    rintro _ w ⟨rfl, hC⟩ a hA
    replace hH := HS.call0 hH hC
    clear hC
    refine sq hA (Runs.bt (q_eqlA8 eqa25 rfl rfl rfl rfl (by first | rfl | assumption | exact sha_length _ | (simp; done) | (simp [*]; done)) (by first | rfl | assumption | exact sha_length _ | (simp; done) | (simp [*]; done))) (by rfl)) rfl fun a hA => ?_
    refine sq hA (q_move rfl) rfl fun a hA => ?_
    refine gl hA rfl rfl (lo_call fn15 rfl (awake_any (hg.mono0 hH))) rfl ?_
    rintro _ w ⟨rfl, hC⟩ a hA
    replace hH := HS.call0 hH hC
    clear hC
    refine sq hA (q_pick_t rfl rfl) rfl fun a hA => ?_
    refine sq hA (q_assign rfl) rfl fun a hA => ?_
    refine wpList_nil ?_
    refine hK5 _ _ ?_
    clear hK5
    replace hA := hA.sub (E' := [(2, _)]) ⟨rfl, trivial⟩
    refine wp_ret ?_
    refine post_ret hA (res_1 rfl hA rfl) ?_
    replace hH := hH.pick [] (Hs' := []) rfl
    exact ⟨_, rfl, rfl, hH⟩

end Go.Proofs.YtegjkoohpkchbaaDoor
