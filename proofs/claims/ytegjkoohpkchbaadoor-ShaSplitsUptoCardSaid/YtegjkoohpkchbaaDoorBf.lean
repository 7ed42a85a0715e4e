/- Layer 2 (sha): what is refused; nil; more laws of chapter 02. -/
import Derived.Test.YtegjkoohpkchbaaDoorLz
import Derived.Test.YtegjkoohpkchbaaDoorTa
import Derived.Test.YtegjkoohpkchbaaDoorTb
import Derived.Test.YtegjkoohpkchbaaDoorLh
import Derived.Test.YtegjkoohpkchbaaDoorMa
import Derived.Test.YtegjkoohpkchbaaDoorMb
import Derived.Test.YtegjkoohpkchbaaDoorMc
import Derived.Test.YtegjkoohpkchbaaDoorBa
import Derived.Test.YtegjkoohpkchbaaDoorBb
import Derived.Test.YtegjkoohpkchbaaDoorBc
import Derived.Test.YtegjkoohpkchbaaDoorBd
import Derived.Test.YtegjkoohpkchbaaDoorBe
namespace Go.Proofs.YtegjkoohpkchbaaDoor
open Go
set_option linter.unusedVariables false
set_option linter.unusedSimpArgs false
set_option maxRecDepth 100000

theorem pad_bad {w0 : World} (n : Int) (hn : n < 0 ∨ 1152921504606846976 < n) :
    Calls Tryd.prog 20 #[I n] w0 (Ret fun r w' => r = .tuple #[.slice none 0 0, I 1] ∧ HS [] w0 w' []) := by
  have hH := HS.start w0
  refine start (n := 33) (E := [(0, _)]) Tryd.func20 rfl rfl rfl (args_look rfl) ?_
  intro a hA
  refine wp_seq_k fun K1 hK1 => ?_
  refine wp_region_lit ?_
  refine sq hA (q_assign rfl) rfl fun a hA => ?_
  refine sq hA (q_assign rfl) rfl fun a hA => ?_
  refine wpList_nil ?_
  refine hK1 _ _ ?_
  clear hK1
  refine wp_seq_k fun K2 hK2 => ?_
  refine wp_seq_k fun K3 hK3 => ?_
  refine wp_region_lit ?_
  refine sq hA (q_move rfl) rfl fun a hA => ?_
  rcases Classical.em (n < 0) with hs9 | hs9
  · skip
    refine sq hA (Runs.bt (q_lssI (n := 0) rfl rfl) (by omega)) rfl fun a hA => ?_
    refine sq hA (q_move rfl) rfl fun a hA => ?_
    refine gs hA rfl rfl rfl rfl fun a hA => ?_
    refine gs hA rfl rfl rfl rfl fun a hA => ?_
    refine sq hA (q_pick_t rfl rfl) rfl fun a hA => ?_
    refine wpList_nil ?_
    refine hK3 _ _ ?_
    clear hK3
    replace hA := hA.sub (E' := [(13, _), (3, _), (2, _), (0, _)]) ⟨rfl, rfl, rfl, rfl, trivial⟩
    refine cond_t hA rfl ?_
    refine wp_seq_k fun K4 hK4 => ?_
    refine wp_region_lit ?_
    refine sq hA (q_assign rfl) rfl fun a hA => ?_
    refine sq hA (q_assign rfl) rfl fun a hA => ?_
    refine wpList_nil ?_
    refine hK4 _ _ ?_
    clear hK4
    replace hA := hA.sub (E' := [(3, _), (2, _), (0, _)]) ⟨rfl, rfl, rfl, trivial⟩
    refine wp_ret ?_
    refine then_ret ?_
    refine post_ret hA (res_2 rfl hA rfl rfl) ?_
    exact ⟨_, rfl, rfl, hH⟩
  · skip
    refine sq hA (Runs.bf (q_lssI (n := 0) rfl rfl) (by omega)) rfl fun a hA => ?_
    refine sq hA (q_move rfl) rfl fun a hA => ?_
    refine gq hA rfl rfl (q_move rfl) rfl fun a hA => ?_
    refine gq hA rfl rfl (Runs.bt (q_gtrI (n := 1152921504606846976) rfl rfl) (by omega)) rfl fun a hA => ?_
    refine sq hA (q_pick_f rfl rfl) rfl fun a hA => ?_
    refine wpList_nil ?_
    refine hK3 _ _ ?_
    clear hK3
    replace hA := hA.sub (E' := [(13, _), (3, _), (2, _), (0, _)]) ⟨rfl, rfl, rfl, rfl, trivial⟩
    refine cond_t hA rfl ?_
    refine wp_seq_k fun K5 hK5 => ?_
    refine wp_region_lit ?_
    refine sq hA (q_assign rfl) rfl fun a hA => ?_
    refine sq hA (q_assign rfl) rfl fun a hA => ?_
    refine wpList_nil ?_
    refine hK5 _ _ ?_
    clear hK5
    replace hA := hA.sub (E' := [(3, _), (2, _), (0, _)]) ⟨rfl, rfl, rfl, trivial⟩
    refine wp_ret ?_
    refine then_ret ?_
    refine post_ret hA (res_2 rfl hA rfl rfl) ?_
    exact ⟨_, rfl, rfl, hH⟩

theorem block_bad {w0 : World} (s : List W) (v : Value) (l : Bs) (hs : s.length = 8) (hr : By [] w0 v l) (hl : l.length ≠ 64) :
    Calls Tryd.prog 18 #[(.agg (s.map U32).toArray), v] w0 (Ret fun r w' => r = .tuple #[.agg ((List.replicate 8 0#32).map U32).toArray, I 1] ∧ HS [] w0 w' []) := by
  have hH := HS.start w0
  refine start (n := 187) (E := [(0, _), (1, _)]) Tryd.func18 rfl rfl rfl (args_look rfl) ?_
  intro a hA
  refine wp_seq_k fun K1 hK1 => ?_
  refine wp_region_lit ?_
  refine sl hA (lo_boxA hH rfl) rfl ?_
  clear hH; rintro _ w ⟨b_t2, rfl, hH⟩ a hA
  refine sl hA (lo_allocA hH ti29) rfl ?_
  clear hH; rintro _ w ⟨b_t4, rfl, hH⟩ a hA
  refine sq hA (q_assign rfl) rfl fun a hA => ?_
  refine wpList_nil ?_
  refine hK1 _ _ ?_
  clear hK1
  replace hA := hA.sub (E' := [(5, _), (4, _), (2, _), (1, _)]) ⟨rfl, rfl, rfl, rfl, trivial⟩
  refine wp_seq_k fun K2 hK2 => ?_
  refine wp_seq_k fun K3 hK3 => ?_
  refine wp_region_lit ?_
  refine sq hA (q_move rfl) rfl fun a hA => ?_
  refine sq hA (q_len Tryd.underlying22 rfl (Rd.shp hr)) rfl fun a hA => ?_
  refine sq hA (q_neqI (n := 64) rfl rfl) rfl fun a hA => ?_
  refine wpList_nil ?_
  refine hK3 _ _ ?_
  clear hK3
  replace hA := hA.sub (E' := [(24, _), (5, _), (4, _), (2, _), (1, _)]) ⟨rfl, rfl, rfl, rfl, rfl, trivial⟩
  refine cond_d hA rfl (fun _ => ?_) (fun hn => absurd (by omega) hn)
  refine wp_seq_k fun K4 hK4 => ?_
  refine wp_region_lit ?_
  refine sq hA (q_build (v := (.agg ((List.replicate 8 0#32).map U32).toArray)) (vs := []) rfl (fun w => by kernel_rfl)) rfl fun a hA => ?_
  refine s0 hA (lo_storeAm hH ti29 rfl rfl (by first | rfl | (simp; done)) (by first | rfl | (simp; done)) (one_U32 _)) ?_
  clear hH; rintro _ w hH
  refine sq hA (q_assign rfl) rfl fun a hA => ?_
  refine wpList_nil ?_
  refine hK4 _ _ ?_
  clear hK4
  replace hA := hA.sub (E' := [(5, _), (4, _), (2, _), (1, _)]) ⟨rfl, rfl, rfl, rfl, trivial⟩
  refine wp_ret ?_
  refine then_ret ?_
  refine post_ret hA (res_c1 rfl hA rfl rfl (resW hH 0 rfl Tryd.underlying29 rfl ti29 (by first | rfl | (simp; done) | (simp [*]; done) | omega))) ?_
  replace hH := hH.pick [] (Hs' := []) rfl
  exact ⟨_, rfl, rfl, hH⟩

theorem write_nil {w0 : World} (v : Value) :
    Calls Tryd.prog 24 #[(.pointer none), v] w0 (Ret fun r w' => r = .tuple #[] ∧ HS [] w0 w' []) := by
  have hH := HS.start w0
  refine start (n := 54) (E := [(0, _), (1, _)]) Tryd.func24 rfl rfl rfl (args_look rfl) ?_
  intro a hA
  refine wp_seq_k fun K1 hK1 => ?_
  refine wp_seq_k fun K2 hK2 => ?_
  refine wp_region_lit ?_
  refine sq hA (q_move rfl) rfl fun a hA => ?_
  refine sq hA (q_nilNil Tryd.underlying41 rfl rfl) rfl fun a hA => ?_
  refine wpList_nil ?_
  refine hK2 _ _ ?_
  clear hK2
  replace hA := hA.sub (E' := [(5, _), (0, _), (1, _)]) ⟨rfl, rfl, rfl, trivial⟩
  refine cond_t hA rfl ?_
  refine wp_ret ?_
  refine then_ret ?_
  refine post_ret hA (res_none rfl) ?_
  exact ⟨_, rfl, rfl, hH⟩

theorem hsum_nil {w0 : World}  :
    Calls Tryd.prog 25 #[(.pointer none)] w0 (Ret fun r w' => r = .agg ((List.replicate 32 0#8).map B8).toArray ∧ HS [] w0 w' []) := by
  have hH := HS.start w0
  refine start (n := 44) (E := [(0, _)]) Tryd.func25 rfl rfl rfl (args_look rfl) ?_
  intro a hA
  refine wp_seq_k fun K1 hK1 => ?_
  refine wp_region_lit ?_
  refine sl hA (lo_allocA hH ti25) rfl ?_
  clear hH; rintro _ w ⟨b_t2, rfl, hH⟩ a hA
  refine wpList_nil ?_
  refine hK1 _ _ ?_
  clear hK1
  refine wp_seq_k fun K2 hK2 => ?_
  refine wp_region_lit ?_
  refine sl hA (lo_allocA hH ti25) rfl ?_
  clear hH; rintro _ w ⟨b_t3, rfl, hH⟩ a hA
  refine wpList_nil ?_
  refine hK2 _ _ ?_
  clear hK2
  refine wp_seq_k fun K3 hK3 => ?_
  refine wp_seq_k fun K4 hK4 => ?_
  refine wp_region_lit ?_
  refine sq hA (q_move rfl) rfl fun a hA => ?_
  refine sq hA (q_nilNil Tryd.underlying41 rfl rfl) rfl fun a hA => ?_
  refine wpList_nil ?_
  refine hK4 _ _ ?_
  clear hK4
  replace hA := hA.sub (E' := [(9, _), (3, _), (2, _), (0, _)]) ⟨rfl, rfl, rfl, rfl, trivial⟩
  refine cond_t hA rfl ?_
  refine wp_seq_k fun K5 hK5 => ?_
  refine wp_region_lit ?_
  refine sq hA (q_loadW hH 0 rfl Tryd.underlying25 rfl ti25 rfl (by first | omega | (simp; done) | (simp; omega) | (simp [*]; done) | (simp [*]; omega))) rfl fun a hA => ?_
  replace hH := hH.pick [1, 0] (Hs' := [_, _]) rfl
  refine s0 hA (lo_storeAm hH ti25 rfl rfl (by first | rfl | (simp; done)) (by first | rfl | (simp; done)) (one_B8 _)) ?_
  clear hH; rintro _ w hH
  refine wpList_nil ?_
  refine hK5 _ _ ?_
  clear hK5
  replace hA := hA.sub (E' := [(3, _), (2, _), (0, _)]) ⟨rfl, rfl, rfl, trivial⟩
  refine wp_ret ?_
  refine then_ret ?_
  refine post_ret hA (res_c rfl hA rfl (resW hH 0 rfl Tryd.underlying25 rfl ti25 (by first | rfl | (simp; done) | (simp [*]; done) | omega))) ?_
  replace hH := hH.pick [] (Hs' := []) rfl
  exact ⟨_, rfl, rfl, hH⟩

theorem len_nil {w0 : World}  :
    Calls Tryd.prog 26 #[(.pointer none)] w0 (Ret fun r w' => r = I 0 ∧ HS [] w0 w' []) := by
  have hH := HS.start w0
  refine start (n := 9) (E := [(0, _)]) Tryd.func26 rfl rfl rfl (args_look rfl) ?_
  intro a hA
  refine wp_seq_k fun K1 hK1 => ?_
  refine wp_region_lit ?_
  refine sq hA (q_assign rfl) rfl fun a hA => ?_
  refine wpList_nil ?_
  refine hK1 _ _ ?_
  clear hK1
  refine wp_seq_k fun K2 hK2 => ?_
  refine wp_seq_k fun K3 hK3 => ?_
  refine wp_region_lit ?_
  refine sq hA (q_move rfl) rfl fun a hA => ?_
  refine sq hA (q_nilNil Tryd.underlying41 rfl rfl) rfl fun a hA => ?_
  refine wpList_nil ?_
  refine hK3 _ _ ?_
  clear hK3
  replace hA := hA.sub (E' := [(4, _), (2, _), (0, _)]) ⟨rfl, rfl, rfl, trivial⟩
  refine cond_t hA rfl ?_
  refine wp_seq_k fun K4 hK4 => ?_
  refine wp_region_lit ?_
  refine sq hA (q_assign rfl) rfl fun a hA => ?_
  refine wpList_nil ?_
  refine hK4 _ _ ?_
  clear hK4
  replace hA := hA.sub (E' := [(2, _), (0, _)]) ⟨rfl, rfl, trivial⟩
  refine wp_ret ?_
  refine then_ret ?_
  refine post_ret hA (res_1 rfl hA rfl) ?_
  exact ⟨_, rfl, rfl, hH⟩

theorem clone_nil {w0 : World}  :
    Calls Tryd.prog 27 #[(.pointer none)] w0 (Ret fun r w' => r = .pointer none ∧ HS [] w0 w' []) := by
  have hH := HS.start w0
  refine start (n := 21) (E := [(0, _)]) Tryd.func27 rfl rfl rfl (args_look rfl) ?_
  intro a hA
  refine wp_seq_k fun K1 hK1 => ?_
  refine wp_region_lit ?_
  refine sq hA (q_assign rfl) rfl fun a hA => ?_
  refine wpList_nil ?_
  refine hK1 _ _ ?_
  clear hK1
  refine wp_seq_k fun K2 hK2 => ?_
  refine wp_seq_k fun K3 hK3 => ?_
  refine wp_region_lit ?_
  refine sq hA (q_move rfl) rfl fun a hA => ?_
  refine sq hA (q_nilNil Tryd.underlying41 rfl rfl) rfl fun a hA => ?_
  refine wpList_nil ?_
  refine hK3 _ _ ?_
  clear hK3
  replace hA := hA.sub (E' := [(4, _), (2, _), (0, _)]) ⟨rfl, rfl, rfl, trivial⟩
  refine cond_t hA rfl ?_
  refine wp_seq_k fun K4 hK4 => ?_
  refine wp_region_lit ?_
  refine sq hA (q_assign rfl) rfl fun a hA => ?_
  refine wpList_nil ?_
  refine hK4 _ _ ?_
  clear hK4
  replace hA := hA.sub (E' := [(2, _), (0, _)]) ⟨rfl, rfl, trivial⟩
  refine wp_ret ?_
  refine then_ret ?_
  refine post_ret hA (res_1 rfl hA rfl) ?_
  exact ⟨_, rfl, rfl, hH⟩

theorem shaNil_any {w0 : World} {lv : Nat} (hg : Gl lv w0) (v : Value) (l : Bs) (hr : By [] w0 v l) (hl : l.length ≤ 1048576) :
    Calls Tryd.prog 8 #[v] w0 (Ret fun r w' => r = .bool true ∧ HS [] w0 w' []) := by
  have hH := HS.start w0
  refine start (n := 26) (E := [(0, _)]) Tryd.func8 rfl rfl rfl (args_look rfl) ?_
  intro a hA
  refine wp_seq_k fun K1 hK1 => ?_
  refine wp_region_lit ?_
  refine sq hA (q_assign rfl) rfl fun a hA => ?_
  refine wpList_nil ?_
  refine hK1 _ _ ?_
  clear hK1
  refine wp_seq_k fun K2 hK2 => ?_
  refine wp_region_lit ?_
  refine sq hA (q_assign rfl) rfl fun a hA => ?_
  refine wpList_nil ?_
  refine hK2 _ _ ?_
  clear hK2
  refine wp_seq_k fun K3 hK3 => ?_
  refine wp_region_lit ?_
  refine sq hA (q_move rfl) rfl fun a hA => ?_
  refine sl hA (lo_bs (f := B8) (e := 5) ([]) hH rfl rfl (fun w => by kernel_rfl)) rfl ?_
  clear hH; rintro v_t5 w ⟨N_t5, hO_t5, hH⟩ a hA
  refine sq hA (q_move rfl) rfl fun a hA => ?_
  refine sl hA (lo_appm hH Tryd.underlying22 Tryd.underlying22 (.inl rfl) ti5 rfl rfl rfl hO_t5 (Rd.src (hH.rd hr)) (one_B8 _) (by first | omega | (simp; done) | (simp; omega)) (by first | omega | (simp; done) | (simp; omega))) rfl ?_
  clear hH; rintro v_t7 w ⟨N_t7, hO_t7, hH⟩ a hA
  refine sl hA (lo_call fn24 rfl (write_nil _)) rfl ?_
  rintro _ w ⟨rfl, hC⟩ a hA
  replace hH := HS.call0 hH hC
  clear hC
  refine wpList_nil ?_
  refine hK3 _ _ ?_
  clear hK3
  replace hA := hA.sub (E' := [(3, _), (2, _)]) ⟨rfl, rfl, trivial⟩
  refine wp_seq_k fun K4 hK4 => ?_
  refine wp_region_lit ?_
  refine sq hA (q_move rfl) rfl fun a hA => ?_
  refine sl hA (lo_call fn25 rfl hsum_nil) rfl ?_
  rintro _ w ⟨rfl, hC⟩ a hA
  replace hH := HS.call0 hH hC
  clear hC
  refine sq hA (q_build (v := (.agg ((List.replicate 32 0#8).map B8).toArray)) (vs := []) rfl (fun w => by kernel_rfl)) rfl fun a hA => ?_
  refine sq hA (Runs.bt (q_eqlA8 (p := (List.replicate 32 0#8)) (q := (List.replicate 32 0#8)) eqa25 rfl rfl rfl rfl (by first | rfl | assumption | exact sha_length _ | (simp; done) | (simp [*]; done)) (by first | rfl | assumption | exact sha_length _ | (simp; done) | (simp [*]; done))) (by rfl)) rfl fun a hA => ?_
  refine sq hA (q_move rfl) rfl fun a hA => ?_
  refine gq hA rfl rfl (q_move rfl) rfl fun a hA => ?_
  refine gl hA rfl rfl (lo_call fn26 rfl len_nil) rfl ?_
  rintro _ w ⟨rfl, hC⟩ a hA
  replace hH := HS.call0 hH hC
  clear hC
  refine gq hA rfl rfl (Runs.bt (q_eqlI (n := 0) rfl rfl) (by rfl)) rfl fun a hA => ?_
  refine sq hA (q_pick_t rfl rfl) rfl fun a hA => ?_
  refine sq hA (q_move rfl) rfl fun a hA => ?_
  refine gq hA rfl rfl (q_move rfl) rfl fun a hA => ?_
  refine gl hA rfl rfl (lo_call fn27 rfl clone_nil) rfl ?_
  rintro _ w ⟨rfl, hC⟩ a hA
  replace hH := HS.call0 hH hC
  clear hC
  refine gq hA rfl rfl (q_nilNil Tryd.underlying41 rfl rfl) rfl fun a hA => ?_
  refine sq hA (q_pick_t rfl rfl) rfl fun a hA => ?_
  refine sq hA (q_move rfl) rfl fun a hA => ?_
  refine gl hA rfl rfl (lo_call fn15 rfl (awake_any (hg.mono0 hH))) rfl ?_
  rintro _ w ⟨rfl, hC⟩ a hA
  replace hH := HS.call0 hH hC
  clear hC
  refine sq hA (q_pick_t rfl rfl) rfl fun a hA => ?_
  refine sq hA (q_assign rfl) rfl fun a hA => ?_
  refine wpList_nil ?_
  refine hK4 _ _ ?_
  clear hK4
  replace hA := hA.sub (E' := [(2, _)]) ⟨rfl, trivial⟩
  refine wp_ret ?_
  refine post_ret hA (res_1 rfl hA rfl) ?_
  replace hH := hH.pick [] (Hs' := []) rfl
  exact ⟨_, rfl, rfl, hH⟩

theorem shaApart_any {w0 : World} (hg : Gl 2 w0) (u v x : Value) (la lb lc : Bs) (hra : By [] w0 u la) (hrb : By [] w0 v lb) (hrc : By [] w0 x lc) (hl : la.length + lb.length + lc.length ≤ 1048576) :
    Calls Tryd.prog 7 #[u, v, x] w0 (Ret fun r w' => r = .bool true ∧ HS [] w0 w' []) := by
  have hH := HS.start w0
  refine start (n := 80) (E := [(0, _), (1, _), (2, _)]) Tryd.func7 rfl rfl rfl (args_look rfl) ?_
  intro a hA
  refine wp_seq_k fun K1 hK1 => ?_
  refine wp_region_lit ?_
  refine sq hA (q_assign rfl) rfl fun a hA => ?_
  refine wpList_nil ?_
  refine hK1 _ _ ?_
  clear hK1
  refine wp_seq_k fun K2 hK2 => ?_
  refine wp_seq_k fun K3 hK3 => ?_
  refine wp_region_lit ?_
  refine sq hA (q_move rfl) rfl fun a hA => ?_
  refine sq hA (q_len Tryd.underlying22 rfl (Rd.shp hra)) rfl fun a hA => ?_
  rcases Classical.em (500 < la.length) with hs11 | hs11
  · skip
    refine sq hA (Runs.bt (q_gtrI (n := 500) rfl rfl) (by omega)) rfl fun a hA => ?_
    refine sq hA (q_move rfl) rfl fun a hA => ?_
    refine gs hA rfl rfl rfl rfl fun a hA => ?_
    refine gs hA rfl rfl rfl rfl fun a hA => ?_
    refine gs hA rfl rfl rfl rfl fun a hA => ?_
    refine sq hA (q_pick_t rfl rfl) rfl fun a hA => ?_
    refine sq hA (q_move rfl) rfl fun a hA => ?_
    refine gs hA rfl rfl rfl rfl fun a hA => ?_
    refine gs hA rfl rfl rfl rfl fun a hA => ?_
    refine gs hA rfl rfl rfl rfl fun a hA => ?_
    refine sq hA (q_pick_t rfl rfl) rfl fun a hA => ?_
    refine wpList_nil ?_
    refine hK3 _ _ ?_
    clear hK3
    replace hA := hA.sub (E' := [(21, _), (6, _), (0, _), (1, _), (2, _)]) ⟨rfl, rfl, rfl, rfl, rfl, trivial⟩
    refine cond_t hA rfl ?_
    refine wp_seq_k fun K4 hK4 => ?_
    refine wp_region_lit ?_
    refine sl hA (lo_call fn15 rfl (awake_any (hg.mono0 hH))) rfl ?_
    rintro _ w ⟨rfl, hC⟩ a hA
    replace hH := HS.call0 hH hC
    clear hC
    refine sq hA (q_assign rfl) rfl fun a hA => ?_
    refine wpList_nil ?_
    refine hK4 _ _ ?_
    clear hK4
    replace hA := hA.sub (E' := [(6, _), (0, _), (1, _), (2, _)]) ⟨rfl, rfl, rfl, rfl, trivial⟩
    refine wp_ret ?_
    refine then_ret ?_
    refine post_ret hA (res_1 rfl hA rfl) ?_
    exact ⟨_, rfl, rfl, hH⟩
  · skip
    refine sq hA (Runs.bf (q_gtrI (n := 500) rfl rfl) (by omega)) rfl fun a hA => ?_
    refine sq hA (q_move rfl) rfl fun a hA => ?_
    refine gq hA rfl rfl (q_move rfl) rfl fun a hA => ?_
    refine gq hA rfl rfl (q_len Tryd.underlying22 rfl (Rd.shp hrb)) rfl fun a hA => ?_
    rcases Classical.em (500 < lb.length) with hs15 | hs15
    · skip
      refine gq hA rfl rfl (Runs.bt (q_gtrI (n := 500) rfl rfl) (by omega)) rfl fun a hA => ?_
      refine sq hA (q_pick_f rfl rfl) rfl fun a hA => ?_
      refine sq hA (q_move rfl) rfl fun a hA => ?_
      refine gs hA rfl rfl rfl rfl fun a hA => ?_
      refine gs hA rfl rfl rfl rfl fun a hA => ?_
      refine gs hA rfl rfl rfl rfl fun a hA => ?_
      refine sq hA (q_pick_t rfl rfl) rfl fun a hA => ?_
      refine wpList_nil ?_
      refine hK3 _ _ ?_
      clear hK3
      replace hA := hA.sub (E' := [(21, _), (6, _), (0, _), (1, _), (2, _)]) ⟨rfl, rfl, rfl, rfl, rfl, trivial⟩
      refine cond_t hA rfl ?_
      refine wp_seq_k fun K5 hK5 => ?_
      refine wp_region_lit ?_
      refine sl hA (lo_call fn15 rfl (awake_any (hg.mono0 hH))) rfl ?_
      rintro _ w ⟨rfl, hC⟩ a hA
      replace hH := HS.call0 hH hC
      clear hC
      refine sq hA (q_assign rfl) rfl fun a hA => ?_
      refine wpList_nil ?_
      refine hK5 _ _ ?_
      clear hK5
      replace hA := hA.sub (E' := [(6, _), (0, _), (1, _), (2, _)]) ⟨rfl, rfl, rfl, rfl, trivial⟩
      refine wp_ret ?_
      refine then_ret ?_
      refine post_ret hA (res_1 rfl hA rfl) ?_
      exact ⟨_, rfl, rfl, hH⟩
    · skip
      refine gq hA rfl rfl (Runs.bf (q_gtrI (n := 500) rfl rfl) (by omega)) rfl fun a hA => ?_
      refine sq hA (q_pick_f rfl rfl) rfl fun a hA => ?_
      refine sq hA (q_move rfl) rfl fun a hA => ?_
      refine gq hA rfl rfl (q_move rfl) rfl fun a hA => ?_
      refine gq hA rfl rfl (q_len Tryd.underlying22 rfl (Rd.shp hrc)) rfl fun a hA => ?_
      rcases Classical.em (500 < lc.length) with hs20 | hs20
      · skip
        refine gq hA rfl rfl (Runs.bt (q_gtrI (n := 500) rfl rfl) (by omega)) rfl fun a hA => ?_
        refine sq hA (q_pick_f rfl rfl) rfl fun a hA => ?_
        refine wpList_nil ?_
        refine hK3 _ _ ?_
        clear hK3
        replace hA := hA.sub (E' := [(21, _), (6, _), (0, _), (1, _), (2, _)]) ⟨rfl, rfl, rfl, rfl, rfl, trivial⟩
        refine cond_t hA rfl ?_
        refine wp_seq_k fun K6 hK6 => ?_
        refine wp_region_lit ?_
        refine sl hA (lo_call fn15 rfl (awake_any (hg.mono0 hH))) rfl ?_
        rintro _ w ⟨rfl, hC⟩ a hA
        replace hH := HS.call0 hH hC
        clear hC
        refine sq hA (q_assign rfl) rfl fun a hA => ?_
        refine wpList_nil ?_
        refine hK6 _ _ ?_
        clear hK6
        replace hA := hA.sub (E' := [(6, _), (0, _), (1, _), (2, _)]) ⟨rfl, rfl, rfl, rfl, trivial⟩
        refine wp_ret ?_
        refine then_ret ?_
        refine post_ret hA (res_1 rfl hA rfl) ?_
        exact ⟨_, rfl, rfl, hH⟩
      · skip
        refine gq hA rfl rfl (Runs.bf (q_gtrI (n := 500) rfl rfl) (by omega)) rfl fun a hA => ?_
        refine sq hA (q_pick_f rfl rfl) rfl fun a hA => ?_
        refine wpList_nil ?_
        refine hK3 _ _ ?_
        clear hK3
        replace hA := hA.sub (E' := [(21, _), (6, _), (0, _), (1, _), (2, _)]) ⟨rfl, rfl, rfl, rfl, rfl, trivial⟩
        refine cond_f hA rfl ?_
        refine wp_skip ?_
        refine hK2 _ _ ?_
        clear hK2
        replace hA := hA.sub (E' := [(6, _), (0, _), (1, _), (2, _)]) ⟨rfl, rfl, rfl, rfl, trivial⟩
        refine wp_seq_k fun K7 hK7 => ?_
        refine wp_region_lit ?_
        refine sl hA (lo_call fn23 rfl (new_any (hg.mono0 hH))) rfl ?_
        rintro _ w ⟨b_t23, N_t23, rfl, hO_t23, hC⟩ a hA
        replace hH := HS.call0 hH hC
        clear hC
        refine sq hA (q_assign rfl) rfl fun a hA => ?_
        refine wpList_nil ?_
        refine hK7 _ _ ?_
        clear hK7
        replace hA := hA.sub (E' := [(7, _), (6, _), (0, _), (1, _), (2, _)]) ⟨rfl, rfl, rfl, rfl, rfl, trivial⟩
        refine wp_seq_k fun K8 hK8 => ?_
        refine wp_region_lit ?_
        refine sq hA (q_move rfl) rfl fun a hA => ?_
        refine sl hA (lo_bs (f := B8) (e := 5) ([]) hH rfl rfl (fun w => by kernel_rfl)) rfl ?_
        clear hH; rintro v_t25 w ⟨N_t25, hO_t25, hH⟩ a hA
        refine sq hA (q_move rfl) rfl fun a hA => ?_
        refine sl hA (lo_appm hH Tryd.underlying22 Tryd.underlying22 (.inl rfl) ti5 rfl rfl rfl hO_t25 (Rd.src (hH.rd hra)) (one_B8 _) (by first | omega | (simp; done) | (simp; omega)) (by first | omega | (simp; done) | (simp; omega))) rfl ?_
        clear hH; rintro v_t27 w ⟨N_t27, hO_t27, hH⟩ a hA
        replace hH := hH.pick [1, 0] (Hs' := [_, _]) rfl
        refine sl hA (lo_call fn24 rfl (write_any (hg.mono hH NG.nil) (doms [N_t23]) (hg.ng NG.nil hH) b_t23 ([]) ([] ++ la) _ N_t23 hO_t23 (Own.rdM hO_t27 (Ns1 := [_]) hH 0 rfl) (by first | (simp; omega) | omega) (HS.handed (Ns1 := [_]) hH))) rfl ?_
        rintro _ w ⟨rfl, N_t23, hO_t23, hC⟩ a hA
        replace hH := HS.call (Ns1 := [_]) hH hC
        clear hC
        refine wpList_nil ?_
        refine hK8 _ _ ?_
        clear hK8
        replace hA := hA.sub (E' := [(7, _), (6, _), (0, _), (1, _), (2, _)]) ⟨rfl, rfl, rfl, rfl, rfl, trivial⟩
        refine wp_seq_k fun K9 hK9 => ?_
        refine wp_region_lit ?_
        refine sq hA (q_move rfl) rfl fun a hA => ?_
        refine sl hA (lo_call fn27 rfl (clone_any b_t23 ([] ++ la) N_t23 hO_t23 (RO.of hH 0 rfl) (by simp; omega))) rfl ?_
        rintro _ w ⟨b_t30, N_t30, rfl, hO_t30, hC⟩ a hA
        replace hH := HS.call0 hH hC
        clear hC
        refine sq hA (q_assign rfl) rfl fun a hA => ?_
        refine wpList_nil ?_
        refine hK9 _ _ ?_
        clear hK9
        replace hA := hA.sub (E' := [(8, _), (7, _), (6, _), (0, _), (1, _), (2, _)]) ⟨rfl, rfl, rfl, rfl, rfl, rfl, trivial⟩
        refine wp_seq_k fun K10 hK10 => ?_
        refine wp_region_lit ?_
        refine sq hA (q_move rfl) rfl fun a hA => ?_
        refine sl hA (lo_bs (f := B8) (e := 5) ([]) hH rfl rfl (fun w => by kernel_rfl)) rfl ?_
        clear hH; rintro v_t32 w ⟨N_t32, hO_t32, hH⟩ a hA
        refine sq hA (q_move rfl) rfl fun a hA => ?_
        refine sl hA (lo_appm hH Tryd.underlying22 Tryd.underlying22 (.inl rfl) ti5 rfl rfl rfl hO_t32 (Rd.src (hH.rd hrb)) (one_B8 _) (by first | omega | (simp; done) | (simp; omega)) (by first | omega | (simp; done) | (simp; omega))) rfl ?_
        clear hH; rintro v_t34 w ⟨N_t34, hO_t34, hH⟩ a hA
        replace hH := hH.pick [2, 0, 1, 3] (Hs' := [_, _, _, _]) rfl
        refine sl hA (lo_call fn24 rfl (write_any (hg.mono hH NG.nil) (doms [N_t23]) (hg.ng NG.nil hH) b_t23 ([] ++ ([] ++ la)) ([] ++ lb) _ N_t23 hO_t23 (Own.rdM hO_t34 (Ns1 := [_]) hH 0 rfl) (by first | (simp; omega) | omega) (HS.handed (Ns1 := [_]) hH))) rfl ?_
        rintro _ w ⟨rfl, N_t23, hO_t23, hC⟩ a hA
        replace hH := HS.call (Ns1 := [_]) hH hC
        clear hC
        refine wpList_nil ?_
        refine hK10 _ _ ?_
        clear hK10
        replace hA := hA.sub (E' := [(8, _), (7, _), (6, _), (0, _), (1, _), (2, _)]) ⟨rfl, rfl, rfl, rfl, rfl, rfl, trivial⟩
        refine wp_seq_k fun K11 hK11 => ?_
        refine wp_region_lit ?_
        refine sq hA (q_move rfl) rfl fun a hA => ?_
        refine sl hA (lo_bs (f := B8) (e := 5) ([]) hH rfl rfl (fun w => by kernel_rfl)) rfl ?_
        clear hH; rintro v_t37 w ⟨N_t37, hO_t37, hH⟩ a hA
        refine sq hA (q_move rfl) rfl fun a hA => ?_
        refine sl hA (lo_appm hH Tryd.underlying22 Tryd.underlying22 (.inl rfl) ti5 rfl rfl rfl hO_t37 (Rd.src (hH.rd hrc)) (one_B8 _) (by first | omega | (simp; done) | (simp; omega)) (by first | omega | (simp; done) | (simp; omega))) rfl ?_
        clear hH; rintro v_t39 w ⟨N_t39, hO_t39, hH⟩ a hA
        replace hH := hH.pick [3, 0, 1, 2, 4] (Hs' := [_, _, _, _, _]) rfl
        refine sl hA (lo_call fn24 rfl (write_any (hg.mono hH NG.nil) (doms [N_t30]) (hg.ng NG.nil hH) b_t30 ([] ++ la) ([] ++ lc) _ N_t30 hO_t30 (Own.rdM hO_t39 (Ns1 := [_]) hH 0 rfl) (by first | (simp; omega) | omega) (HS.handed (Ns1 := [_]) hH))) rfl ?_
        rintro _ w ⟨rfl, N_t30, hO_t30, hC⟩ a hA
        replace hH := HS.call (Ns1 := [_]) hH hC
        clear hC
        refine wpList_nil ?_
        refine hK11 _ _ ?_
        clear hK11
        replace hA := hA.sub (E' := [(8, _), (7, _), (6, _), (0, _), (1, _), (2, _)]) ⟨rfl, rfl, rfl, rfl, rfl, rfl, trivial⟩
        refine wp_seq_k fun K12 hK12 => ?_
        refine wp_region_lit ?_
        refine sq hA (q_move rfl) rfl fun a hA => ?_
        refine sl hA (lo_call fn25 rfl (hsum_any (hg.mono0 hH) b_t23 (([] ++ la) ++ lb) N_t23 hO_t23 (RO.of hH 2 rfl) (by simp; omega))) rfl ?_
        rintro _ w ⟨rfl, hC⟩ a hA
        replace hH := HS.call0 hH hC
        clear hC
        refine sq hA (q_move rfl) rfl fun a hA => ?_
        refine sq hA (q_move rfl) rfl fun a hA => ?_
        refine sl hA (lo_call fn28 rfl (join_any _ _ (la) (lb) (hH.rd hra) (hH.rd hrb) (by omega))) rfl ?_
        rintro _ w ⟨v_t45, N_t45, rfl, hO_t45, hC⟩ a hA
        replace hH := HS.call0 hH hC
        clear hC
        refine sl hA (lo_call fn17 rfl (refsum_any (hg.mono0 hH) _ (la ++ lb) (Own.rd0 hO_t45 hH 0 rfl) (by simp; omega))) rfl ?_
        rintro _ w ⟨rfl, hC⟩ a hA
        replace hH := HS.call0 hH hC
        clear hC
        refine sq hA (Runs.bt (q_eqlA8 eqa25 rfl rfl rfl rfl (by first | rfl | assumption | exact sha_length _ | (simp; done) | (simp [*]; done)) (by first | rfl | assumption | exact sha_length _ | (simp; done) | (simp [*]; done))) (by rfl)) rfl fun a hA => ?_
        refine sq hA (q_move rfl) rfl fun a hA => ?_
        refine gq hA rfl rfl (q_move rfl) rfl fun a hA => ?_
        refine gl hA rfl rfl (lo_call fn25 rfl (hsum_any (hg.mono0 hH) b_t30 (([] ++ la) ++ lc) N_t30 hO_t30 (RO.of hH 1 rfl) (by simp; omega))) rfl ?_
        rintro _ w ⟨rfl, hC⟩ a hA
        replace hH := HS.call0 hH hC
        clear hC
        refine gq hA rfl rfl (q_move rfl) rfl fun a hA => ?_
        refine gq hA rfl rfl (q_move rfl) rfl fun a hA => ?_
        refine gl hA rfl rfl (lo_call fn28 rfl (join_any _ _ (la) (lc) (hH.rd hra) (hH.rd hrc) (by omega))) rfl ?_
        rintro _ w ⟨v_t53, N_t53, rfl, hO_t53, hC⟩ a hA
        replace hH := HS.call0 hH hC
        clear hC
        refine gl hA rfl rfl (lo_call fn17 rfl (refsum_any (hg.mono0 hH) _ (la ++ lc) (Own.rd0 hO_t53 hH 0 rfl) (by simp; omega))) rfl ?_
        rintro _ w ⟨rfl, hC⟩ a hA
        replace hH := HS.call0 hH hC
        clear hC
        refine gq hA rfl rfl (Runs.bt (q_eqlA8 eqa25 rfl rfl rfl rfl (by first | rfl | assumption | exact sha_length _ | (simp; done) | (simp [*]; done)) (by first | rfl | assumption | exact sha_length _ | (simp; done) | (simp [*]; done))) (by rfl)) rfl fun a hA => ?_
        refine sq hA (q_pick_t rfl rfl) rfl fun a hA => ?_
        refine sq hA (q_move rfl) rfl fun a hA => ?_
        refine gq hA rfl rfl (q_move rfl) rfl fun a hA => ?_
        refine gl hA rfl rfl (lo_call fn26 rfl (len_any b_t23 (([] ++ la) ++ lb) N_t23 hO_t23 (RO.of hH 4 rfl))) rfl ?_
        rintro _ w ⟨rfl, hC⟩ a hA
        replace hH := HS.call0 hH hC
        clear hC
        refine gq hA rfl rfl (q_move rfl) rfl fun a hA => ?_
        refine gq hA rfl rfl (q_len Tryd.underlying22 rfl (Rd.shp hra)) rfl fun a hA => ?_
        refine gq hA rfl rfl (q_move rfl) rfl fun a hA => ?_
        refine gq hA rfl rfl (q_len Tryd.underlying22 rfl (Rd.shp hrb)) rfl fun a hA => ?_
        refine gq hA rfl rfl (q_addI rfl rfl (by omega)) rfl fun a hA => ?_
        refine gq hA rfl rfl (Runs.bt (q_eqlI rfl rfl) (by simp)) rfl fun a hA => ?_
        refine sq hA (q_pick_t rfl rfl) rfl fun a hA => ?_
        refine sq hA (q_move rfl) rfl fun a hA => ?_
        refine gq hA rfl rfl (q_move rfl) rfl fun a hA => ?_
        refine gl hA rfl rfl (lo_call fn26 rfl (len_any b_t30 (([] ++ la) ++ lc) N_t30 hO_t30 (RO.of hH 2 rfl))) rfl ?_
        rintro _ w ⟨rfl, hC⟩ a hA
        replace hH := HS.call0 hH hC
        clear hC
        refine gq hA rfl rfl (q_move rfl) rfl fun a hA => ?_
        refine gq hA rfl rfl (q_len Tryd.underlying22 rfl (Rd.shp hra)) rfl fun a hA => ?_
        refine gq hA rfl rfl (q_move rfl) rfl fun a hA => ?_
        refine gq hA rfl rfl (q_len Tryd.underlying22 rfl (Rd.shp hrc)) rfl fun a hA => ?_
        refine gq hA rfl rfl (q_addI rfl rfl (by omega)) rfl fun a hA => ?_
        refine gq hA rfl rfl (Runs.bt (q_eqlI rfl rfl) (by simp)) rfl fun a hA => ?_
        refine sq hA (q_pick_t rfl rfl) rfl fun a hA => ?_
        refine sq hA (q_move rfl) rfl fun a hA => ?_
        refine gl hA rfl rfl (lo_call fn15 rfl (awake_any (hg.mono0 hH))) rfl ?_
        rintro _ w ⟨rfl, hC⟩ a hA
        replace hH := HS.call0 hH hC
        clear hC
        refine sq hA (q_pick_t rfl rfl) rfl fun a hA => ?_
        refine sq hA (q_assign rfl) rfl fun a hA => ?_
        refine wpList_nil ?_
        refine hK12 _ _ ?_
        clear hK12
        replace hA := hA.sub (E' := [(6, _)]) ⟨rfl, trivial⟩
        refine wp_ret ?_
        refine post_ret hA (res_1 rfl hA rfl) ?_
        replace hH := hH.pick [] (Hs' := []) rfl
        exact ⟨_, rfl, rfl, hH⟩

theorem shaPads_bad {w0 : World} {lv : Nat} (hg : Gl lv w0) (n : Int) (hn : n < 0 ∨ 1152921504606846976 < n) :
    Calls Tryd.prog 5 #[I n] w0 (Ret fun r w' => r = .bool true ∧ HS [] w0 w' []) := by
  have hH := HS.start w0
  refine start (n := 51) (E := [(0, _)]) Tryd.func5 rfl rfl rfl (args_look rfl) ?_
  intro a hA
  refine wp_seq_k fun K1 hK1 => ?_
  refine wp_region_lit ?_
  refine sq hA (q_assign rfl) rfl fun a hA => ?_
  refine wpList_nil ?_
  refine hK1 _ _ ?_
  clear hK1
  refine wp_seq_k fun K2 hK2 => ?_
  refine wp_region_lit ?_
  refine sq hA (q_move rfl) rfl fun a hA => ?_
  refine sl hA (lo_call fn20 rfl (pad_bad n hn)) rfl ?_
  rintro _ w ⟨rfl, hC⟩ a hA
  replace hH := HS.call0 hH hC
  clear hC
  refine sq hA (q_move rfl) rfl fun a hA => ?_
  refine sq hA (q_extract rfl rfl) rfl fun a hA => ?_
  refine sq hA (q_extract rfl rfl) rfl fun a hA => ?_
  refine sq hA (q_assign rfl) rfl fun a hA => ?_
  refine sq hA (q_assign rfl) rfl fun a hA => ?_
  refine wpList_nil ?_
  refine hK2 _ _ ?_
  clear hK2
  replace hA := hA.sub (E' := [(4, _), (3, _), (2, _), (0, _)]) ⟨rfl, rfl, rfl, rfl, trivial⟩
  refine wp_seq_k fun K3 hK3 => ?_
  refine wp_seq_k fun K4 hK4 => ?_
  refine wp_region_lit ?_
  refine sq hA (q_move rfl) rfl fun a hA => ?_
  rcases Classical.em (n < 0) with hs11 | hs11
  · skip
    refine sq hA (Runs.bt (q_lssI (n := 0) rfl rfl) (by omega)) rfl fun a hA => ?_
    refine sq hA (q_move rfl) rfl fun a hA => ?_
    refine gs hA rfl rfl rfl rfl fun a hA => ?_
    refine gs hA rfl rfl rfl rfl fun a hA => ?_
    refine sq hA (q_pick_t rfl rfl) rfl fun a hA => ?_
    refine wpList_nil ?_
    refine hK4 _ _ ?_
    clear hK4
    replace hA := hA.sub (E' := [(15, _), (4, _), (3, _), (2, _), (0, _)]) ⟨rfl, rfl, rfl, rfl, rfl, trivial⟩
    refine cond_t hA rfl ?_
    refine wp_seq_k fun K5 hK5 => ?_
    refine wp_region_lit ?_
    refine sq hA (q_move rfl) rfl fun a hA => ?_
    refine sq hA (q_lenV Tryd.underlying22 rfl) rfl fun a hA => ?_
    refine sq hA (Runs.bt (q_eqlI (n := 0) rfl rfl) (by rfl)) rfl fun a hA => ?_
    refine sq hA (q_move rfl) rfl fun a hA => ?_
    refine gq hA rfl rfl (q_move rfl) rfl fun a hA => ?_
    refine gq hA rfl rfl (Runs.bt (q_eqlI (n := 1) rfl rfl) (by rfl)) rfl fun a hA => ?_
    refine sq hA (q_pick_t rfl rfl) rfl fun a hA => ?_
    refine sq hA (q_move rfl) rfl fun a hA => ?_
    refine gl hA rfl rfl (lo_call fn15 rfl (awake_any (hg.mono0 hH))) rfl ?_
    rintro _ w ⟨rfl, hC⟩ a hA
    replace hH := HS.call0 hH hC
    clear hC
    refine sq hA (q_pick_t rfl rfl) rfl fun a hA => ?_
    refine sq hA (q_assign rfl) rfl fun a hA => ?_
    refine wpList_nil ?_
    refine hK5 _ _ ?_
    clear hK5
    replace hA := hA.sub (E' := [(2, _), (4, _), (3, _), (0, _)]) ⟨rfl, rfl, rfl, rfl, trivial⟩
    refine wp_ret ?_
    refine then_ret ?_
    refine post_ret hA (res_1 rfl hA rfl) ?_
    exact ⟨_, rfl, rfl, hH⟩
  · skip
    refine sq hA (Runs.bf (q_lssI (n := 0) rfl rfl) (by omega)) rfl fun a hA => ?_
    refine sq hA (q_move rfl) rfl fun a hA => ?_
    refine gq hA rfl rfl (q_move rfl) rfl fun a hA => ?_
    refine gq hA rfl rfl (Runs.bt (q_gtrI (n := 1152921504606846976) rfl rfl) (by omega)) rfl fun a hA => ?_
    refine sq hA (q_pick_f rfl rfl) rfl fun a hA => ?_
    refine wpList_nil ?_
    refine hK4 _ _ ?_
    clear hK4
    replace hA := hA.sub (E' := [(15, _), (4, _), (3, _), (2, _), (0, _)]) ⟨rfl, rfl, rfl, rfl, rfl, trivial⟩
    refine cond_t hA rfl ?_
    refine wp_seq_k fun K6 hK6 => ?_
    refine wp_region_lit ?_
    refine sq hA (q_move rfl) rfl fun a hA => ?_
    refine sq hA (q_lenV Tryd.underlying22 rfl) rfl fun a hA => ?_
    refine sq hA (Runs.bt (q_eqlI (n := 0) rfl rfl) (by rfl)) rfl fun a hA => ?_
    refine sq hA (q_move rfl) rfl fun a hA => ?_
    refine gq hA rfl rfl (q_move rfl) rfl fun a hA => ?_
    refine gq hA rfl rfl (Runs.bt (q_eqlI (n := 1) rfl rfl) (by rfl)) rfl fun a hA => ?_
    refine sq hA (q_pick_t rfl rfl) rfl fun a hA => ?_
    refine sq hA (q_move rfl) rfl fun a hA => ?_
    refine gl hA rfl rfl (lo_call fn15 rfl (awake_any (hg.mono0 hH))) rfl ?_
    rintro _ w ⟨rfl, hC⟩ a hA
    replace hH := HS.call0 hH hC
    clear hC
    refine sq hA (q_pick_t rfl rfl) rfl fun a hA => ?_
    refine sq hA (q_assign rfl) rfl fun a hA => ?_
    refine wpList_nil ?_
    refine hK6 _ _ ?_
    clear hK6
    replace hA := hA.sub (E' := [(2, _), (4, _), (3, _), (0, _)]) ⟨rfl, rfl, rfl, rfl, trivial⟩
    refine wp_ret ?_
    refine then_ret ?_
    refine post_ret hA (res_1 rfl hA rfl) ?_
    exact ⟨_, rfl, rfl, hH⟩

theorem shaPads_ok {w0 : World} {lv : Nat} (hg : Gl lv w0) (n : Nat) (hn : n ≤ 1152921504606846976) :
    Calls Tryd.prog 5 #[I n] w0 (Ret fun r w' => r = .bool true ∧ HS [] w0 w' []) := by
  have hH := HS.start w0
  refine start (n := 51) (E := [(0, _)]) Tryd.func5 rfl rfl rfl (args_look rfl) ?_
  intro a hA
  have hpl := padB_length n
  have hpw := padB_whole n
  refine wp_seq_k fun K1 hK1 => ?_
  refine wp_region_lit ?_
  refine sq hA (q_assign rfl) rfl fun a hA => ?_
  refine wpList_nil ?_
  refine hK1 _ _ ?_
  clear hK1
  refine wp_seq_k fun K2 hK2 => ?_
  refine wp_region_lit ?_
  refine sq hA (q_move rfl) rfl fun a hA => ?_
  refine sl hA (lo_call fn20 rfl (pad_any n hn)) rfl ?_
  rintro _ w ⟨v_t7, N_t7, rfl, hO_t7, hC⟩ a hA
  replace hH := HS.call0 hH hC
  clear hC
  refine sq hA (q_move rfl) rfl fun a hA => ?_
  refine sq hA (q_extract rfl rfl) rfl fun a hA => ?_
  refine sq hA (q_extract rfl rfl) rfl fun a hA => ?_
  refine sq hA (q_assign rfl) rfl fun a hA => ?_
  refine sq hA (q_assign rfl) rfl fun a hA => ?_
  refine wpList_nil ?_
  refine hK2 _ _ ?_
  clear hK2
  replace hA := hA.sub (E' := [(4, _), (3, _), (2, _), (0, _)]) ⟨rfl, rfl, rfl, rfl, trivial⟩
  refine wp_seq_k fun K3 hK3 => ?_
  refine wp_seq_k fun K4 hK4 => ?_
  refine wp_region_lit ?_
  refine sq hA (q_move rfl) rfl fun a hA => ?_
  refine sq hA (Runs.bf (q_lssI (n := 0) rfl rfl) (by omega)) rfl fun a hA => ?_
  refine sq hA (q_move rfl) rfl fun a hA => ?_
  refine gq hA rfl rfl (q_move rfl) rfl fun a hA => ?_
  refine gq hA rfl rfl (Runs.bf (q_gtrI (n := 1152921504606846976) rfl rfl) (by omega)) rfl fun a hA => ?_
  refine sq hA (q_pick_f rfl rfl) rfl fun a hA => ?_
  refine wpList_nil ?_
  refine hK4 _ _ ?_
  clear hK4
  replace hA := hA.sub (E' := [(15, _), (4, _), (3, _), (2, _), (0, _)]) ⟨rfl, rfl, rfl, rfl, rfl, trivial⟩
  refine cond_f hA rfl ?_
  refine wp_skip ?_
  refine hK3 _ _ ?_
  clear hK3
  replace hA := hA.sub (E' := [(4, _), (3, _), (2, _), (0, _)]) ⟨rfl, rfl, rfl, rfl, trivial⟩
  refine wp_seq_k fun K5 hK5 => ?_
  refine wp_region_lit ?_
  refine sq hA (q_move rfl) rfl fun a hA => ?_
  refine sq hA (Runs.bt (q_eqlI (n := 0) rfl rfl) (by rfl)) rfl fun a hA => ?_
  refine sq hA (q_move rfl) rfl fun a hA => ?_
  refine gq hA rfl rfl (q_move rfl) rfl fun a hA => ?_
  refine gq hA rfl rfl (q_move rfl) rfl fun a hA => ?_
  refine gl hA rfl rfl (lo_call fn22 rfl (refpad_any n hn)) rfl ?_
  rintro _ w ⟨v_t31, N_t31, rfl, hO_t31, hC⟩ a hA
  replace hH := HS.call0 hH hC
  clear hC
  refine gl hA rfl rfl (lo_call fn21 rfl (same_any _ _ (padB n) (padB n) (Own.rd0 hO_t7 hH 1 rfl) (Own.rd0 hO_t31 hH 0 rfl) (by omega) (by omega))) rfl ?_
  rintro _ w ⟨rfl, hC⟩ a hA
  replace hH := HS.call0 hH hC
  clear hC
  rw [show decide (padB n = padB n) = true from decide_eq_true rfl] at hA
  refine sq hA (q_pick_t rfl rfl) rfl fun a hA => ?_
  refine sq hA (q_move rfl) rfl fun a hA => ?_
  refine gq hA rfl rfl (q_move rfl) rfl fun a hA => ?_
  refine gq hA rfl rfl (q_remI (n := 64) rfl rfl (by omega)) rfl fun a hA => ?_
  refine gq hA rfl rfl (q_move rfl) rfl fun a hA => ?_
  refine gq hA rfl rfl (q_len Tryd.underlying22 rfl (Own.shp hO_t7)) rfl fun a hA => ?_
  refine gq hA rfl rfl (q_addI rfl rfl (by omega)) rfl fun a hA => ?_
  refine gq hA rfl rfl (q_remI (n := 64) rfl rfl (by omega)) rfl fun a hA => ?_
  refine gq hA rfl rfl (Runs.bt (q_eqlI (n := 0) rfl rfl) (by omega)) rfl fun a hA => ?_
  refine sq hA (q_pick_t rfl rfl) rfl fun a hA => ?_
  refine sq hA (q_move rfl) rfl fun a hA => ?_
  refine gq hA rfl rfl (q_move rfl) rfl fun a hA => ?_
  refine gq hA rfl rfl (q_len Tryd.underlying22 rfl (Own.shp hO_t7)) rfl fun a hA => ?_
  refine gq hA rfl rfl (Runs.bt (q_lssI (n := 73) rfl rfl) (by omega)) rfl fun a hA => ?_
  refine sq hA (q_pick_t rfl rfl) rfl fun a hA => ?_
  refine sq hA (q_move rfl) rfl fun a hA => ?_
  refine gl hA rfl rfl (lo_call fn15 rfl (awake_any (hg.mono0 hH))) rfl ?_
  rintro _ w ⟨rfl, hC⟩ a hA
  replace hH := HS.call0 hH hC
  clear hC
  refine sq hA (q_pick_t rfl rfl) rfl fun a hA => ?_
  refine sq hA (q_assign rfl) rfl fun a hA => ?_
  refine wpList_nil ?_
  refine hK5 _ _ ?_
  clear hK5
  replace hA := hA.sub (E' := [(2, _)]) ⟨rfl, trivial⟩
  refine wp_ret ?_
  refine post_ret hA (res_1 rfl hA rfl) ?_
  replace hH := hH.pick [] (Hs' := []) rfl
  exact ⟨_, rfl, rfl, hH⟩

theorem shaBlocks_bad {w0 : World} {lv : Nat} (hg : Gl lv w0) (s : List W) (v : Value) (l : Bs) (hs : s.length = 8) (hr : By [] w0 v l) (hl : l.length ≤ 1048576) (h64 : l.length ≠ 64) :
    Calls Tryd.prog 4 #[(.agg (s.map U32).toArray), v] w0 (Ret fun r w' => r = .bool true ∧ HS [] w0 w' []) := by
  have hH := HS.start w0
  refine start (n := 40) (E := [(0, _), (1, _)]) Tryd.func4 rfl rfl rfl (args_look rfl) ?_
  intro a hA
  refine wp_seq_k fun K1 hK1 => ?_
  refine wp_region_lit ?_
  refine sl hA (lo_boxA hH rfl) rfl ?_
  clear hH; rintro _ w ⟨b_t2, rfl, hH⟩ a hA
  refine sq hA (q_assign rfl) rfl fun a hA => ?_
  refine wpList_nil ?_
  refine hK1 _ _ ?_
  clear hK1
  replace hA := hA.sub (E' := [(4, _), (2, _), (1, _)]) ⟨rfl, rfl, rfl, trivial⟩
  refine wp_seq_k fun K2 hK2 => ?_
  refine any_go mixed (fun j => !(Nat.beq j 4 || Nat.beq j 9)) hH ?_
  clear hH; intro w hH
  have hS := hH
  change wpK _ _ _ _ _ _ 11 #[false, false, false, false, false, false, false, false, false, false, false] _ _
  refine aq hA 0 rfl (by kernel_rfl) (by intro c a d v w h; cases d <;> exact h) hS (fun w hH => (q_loadW hH 0 rfl Tryd.underlying29 rfl ti29 rfl (by first | omega | (simp; done) | (simp; omega) | (simp [*]; done) | (simp [*]; omega)))) rfl (listed' := #[true, false, false, false, false, false, false, false, false, false, false]) rfl fun a hA => ?_
  refine apq hA 2 rfl (by kernel_rfl) (by intro c a d v w h; cases d <;> exact h) (fun w => (q_move rfl)) rfl (listed' := #[true, false, true, false, false, false, false, false, false, false, false]) rfl fun a hA => ?_
  refine a_ch2 (i := 1) (j := 8) (by kernel_rfl) ?_ ?_
  · skip
    refine oneL hA 1 rfl (lo_bs (f := B8) (e := 5) ([]) hH rfl rfl (fun w => by kernel_rfl)) rfl (listed' := #[true, true, true, false, false, false, false, false, false, false, false]) rfl ?_
    clear hH; rintro v_t9 w ⟨N_t9, hO_t9, hH⟩
    have hS' := hH.pick [1] (Hs' := [_]) rfl
    replace hS := hS'; clear hS'
    refine ⟨fun _ _ => hS, ?_⟩
    intro a hA
    refine a_ch2 (i := 3) (j := 8) (by kernel_rfl) ?_ ?_
    · skip
      refine oneL hA 3 rfl (lo_appm hH Tryd.underlying22 Tryd.underlying22 (.inl rfl) ti5 rfl rfl rfl hO_t9 (Rd.src (hH.rd hr)) (one_B8 _) (by first | omega | (simp; done) | (simp; omega)) (by first | omega | (simp; done) | (simp; omega))) rfl (listed' := #[true, true, true, true, false, false, false, false, false, false, false]) rfl ?_
      clear hH; rintro v_t11 w ⟨N_t11, hO_t11, hH⟩
      have hS' := hH.pick [1] (Hs' := [_]) rfl
      replace hS := hS'; clear hS'
      refine ⟨fun _ _ => hS, ?_⟩
      intro a hA
      refine a_ch2 (i := 4) (j := 8) (by kernel_rfl) ?_ ?_
      · skip
        refine oneL hA 4 rfl (lo_call fn18 rfl (block_bad s v_t11 ([] ++ l) hs (Own.rd0 hO_t11 hH 0 rfl) h64)) rfl (listed' := #[true, true, true, true, true, false, false, false, false, false, false]) rfl ?_
        rintro _ w ⟨rfl, hC⟩
        replace hH := HS.call0 hH hC
        clear hC
        refine ⟨fun _ h => absurd h (by decide), ?_⟩
        intro a hA
        refine apq hA 5 rfl (by kernel_rfl) (by intro c a d v w h; cases d <;> exact h) (fun w => (q_move rfl)) rfl (listed' := #[true, true, true, true, true, true, false, false, false, false, false]) rfl fun a hA => ?_
        refine apq hA 6 rfl (by kernel_rfl) (by intro c a d v w h; cases d <;> exact h) (fun w => (q_extract rfl rfl)) rfl (listed' := #[true, true, true, true, true, true, true, false, false, false, false]) rfl fun a hA => ?_
        refine apq hA 7 rfl (by kernel_rfl) (by intro c a d v w h; cases d <;> exact h) (fun w => (q_extract rfl rfl)) rfl (listed' := #[true, true, true, true, true, true, true, true, false, false, false]) rfl fun a hA => ?_
        refine al hA 8 rfl (by kernel_rfl) (lo_allocA hH ti29) rfl (listed' := #[true, true, true, true, true, true, true, true, true, false, false]) rfl ?_
        clear hH; rintro _ w ⟨b_t5, rfl, hH⟩
        have hS' := hH.pick [2] (Hs' := [_]) rfl
        replace hS := hS'; clear hS'
        refine ⟨fun _ _ => hS, ?_⟩
        intro a hA
        refine al0 hA 9 rfl (by kernel_rfl) (lo_storeAm hH ti29 rfl rfl (by first | rfl | (simp; done)) (by first | rfl | (simp; done)) (one_U32 _)) (listed' := #[true, true, true, true, true, true, true, true, true, true, false]) rfl ?_
        clear hH; rintro _ w hH
        refine ⟨fun _ h => absurd h (by decide), ?_⟩
        refine apq hA 10 rfl (by kernel_rfl) (by intro c a d v w h; cases d <;> exact h) (fun w => (q_assign rfl)) rfl (listed' := #[true, true, true, true, true, true, true, true, true, true, true]) rfl fun a hA => ?_
        refine a_end (by kernel_rfl) ?_ _
        refine hK2 _ _ ?_
        clear hK2
        replace hA := hA.sub (E' := [(6, _), (5, _), (4, _), (2, _), (1, _)]) ⟨rfl, rfl, rfl, rfl, rfl, trivial⟩
        refine wp_seq_k fun K3 hK3 => ?_
        refine wp_seq_k fun K4 hK4 => ?_
        refine wp_region_lit ?_
        refine sq hA (q_move rfl) rfl fun a hA => ?_
        refine sq hA (q_len Tryd.underlying22 rfl (Rd.shp hr)) rfl fun a hA => ?_
        refine sq hA (q_neqI (n := 64) rfl rfl) rfl fun a hA => ?_
        refine wpList_nil ?_
        refine hK4 _ _ ?_
        clear hK4
        replace hA := hA.sub (E' := [(17, _), (6, _), (5, _), (4, _), (2, _), (1, _)]) ⟨rfl, rfl, rfl, rfl, rfl, rfl, trivial⟩
        refine cond_d hA rfl (fun _ => ?_) (fun hn => absurd (by omega) hn)
        refine wp_seq_k fun K5 hK5 => ?_
        refine wp_region_lit ?_
        refine sq hA (q_loadW hH 0 rfl Tryd.underlying29 rfl ti29 rfl (by first | omega | (simp; done) | (simp; omega) | (simp [*]; done) | (simp [*]; omega))) rfl fun a hA => ?_
        refine sq hA (q_build (v := (.agg ((List.replicate 8 0#32).map U32).toArray)) (vs := []) rfl (fun w => by kernel_rfl)) rfl fun a hA => ?_
        refine sq hA (Runs.bt (q_eqlA32 (p := List.replicate 8 0#32) (q := List.replicate 8 0#32) eqa29 rfl rfl rfl rfl (by first | rfl | assumption | exact sha_length _ | (simp; done) | (simp [*]; done)) (by first | rfl | assumption | exact sha_length _ | (simp; done) | (simp [*]; done))) (by rfl)) rfl fun a hA => ?_
        refine sq hA (q_move rfl) rfl fun a hA => ?_
        refine gq hA rfl rfl (q_move rfl) rfl fun a hA => ?_
        refine gq hA rfl rfl (Runs.bt (q_eqlI (n := 1) rfl rfl) (by rfl)) rfl fun a hA => ?_
        refine sq hA (q_pick_t rfl rfl) rfl fun a hA => ?_
        refine sq hA (q_move rfl) rfl fun a hA => ?_
        refine gl hA rfl rfl (lo_call fn15 rfl (awake_any (hg.mono0 hH))) rfl ?_
        rintro _ w ⟨rfl, hC⟩ a hA
        replace hH := HS.call0 hH hC
        clear hC
        refine sq hA (q_pick_t rfl rfl) rfl fun a hA => ?_
        refine sq hA (q_assign rfl) rfl fun a hA => ?_
        refine wpList_nil ?_
        refine hK5 _ _ ?_
        clear hK5
        replace hA := hA.sub (E' := [(4, _), (6, _), (5, _), (2, _), (1, _)]) ⟨rfl, rfl, rfl, rfl, rfl, trivial⟩
        refine wp_ret ?_
        refine then_ret ?_
        refine post_ret hA (res_1 rfl hA rfl) ?_
        replace hH := hH.pick [] (Hs' := []) rfl
        exact ⟨_, rfl, rfl, hH⟩
      · skip
        refine oneL hA 8 rfl (lo_allocA hH ti29) rfl (listed' := #[true, true, true, true, false, false, false, false, true, false, false]) rfl ?_
        clear hH; rintro _ w ⟨b_t5, rfl, hH⟩
        have hS' := hH.pick [2] (Hs' := [_]) rfl
        replace hS := hS'; clear hS'
        refine ⟨fun _ _ => hS, ?_⟩
        intro a hA
        refine al hA 4 rfl (by kernel_rfl) (lo_call fn18 rfl (block_bad s v_t11 ([] ++ l) hs (Own.rd0 hO_t11 hH 1 rfl) h64)) rfl (listed' := #[true, true, true, true, true, false, false, false, true, false, false]) rfl ?_
        rintro _ w ⟨rfl, hC⟩
        replace hH := HS.call0 hH hC
        clear hC
        refine ⟨fun _ h => absurd h (by decide), ?_⟩
        intro a hA
        refine apq hA 5 rfl (by kernel_rfl) (by intro c a d v w h; cases d <;> exact h) (fun w => (q_move rfl)) rfl (listed' := #[true, true, true, true, true, true, false, false, true, false, false]) rfl fun a hA => ?_
        refine apq hA 6 rfl (by kernel_rfl) (by intro c a d v w h; cases d <;> exact h) (fun w => (q_extract rfl rfl)) rfl (listed' := #[true, true, true, true, true, true, true, false, true, false, false]) rfl fun a hA => ?_
        refine apq hA 7 rfl (by kernel_rfl) (by intro c a d v w h; cases d <;> exact h) (fun w => (q_extract rfl rfl)) rfl (listed' := #[true, true, true, true, true, true, true, true, true, false, false]) rfl fun a hA => ?_
        refine al0 hA 9 rfl (by kernel_rfl) (lo_storeAm hH ti29 rfl rfl (by first | rfl | (simp; done)) (by first | rfl | (simp; done)) (one_U32 _)) (listed' := #[true, true, true, true, true, true, true, true, true, true, false]) rfl ?_
        clear hH; rintro _ w hH
        refine ⟨fun _ h => absurd h (by decide), ?_⟩
        refine apq hA 10 rfl (by kernel_rfl) (by intro c a d v w h; cases d <;> exact h) (fun w => (q_assign rfl)) rfl (listed' := #[true, true, true, true, true, true, true, true, true, true, true]) rfl fun a hA => ?_
        refine a_end (by kernel_rfl) ?_ _
        refine hK2 _ _ ?_
        clear hK2
        replace hA := hA.sub (E' := [(6, _), (5, _), (4, _), (2, _), (1, _)]) ⟨rfl, rfl, rfl, rfl, rfl, trivial⟩
        refine wp_seq_k fun K6 hK6 => ?_
        refine wp_seq_k fun K7 hK7 => ?_
        refine wp_region_lit ?_
        refine sq hA (q_move rfl) rfl fun a hA => ?_
        refine sq hA (q_len Tryd.underlying22 rfl (Rd.shp hr)) rfl fun a hA => ?_
        refine sq hA (q_neqI (n := 64) rfl rfl) rfl fun a hA => ?_
        refine wpList_nil ?_
        refine hK7 _ _ ?_
        clear hK7
        replace hA := hA.sub (E' := [(17, _), (6, _), (5, _), (4, _), (2, _), (1, _)]) ⟨rfl, rfl, rfl, rfl, rfl, rfl, trivial⟩
        refine cond_d hA rfl (fun _ => ?_) (fun hn => absurd (by omega) hn)
        refine wp_seq_k fun K8 hK8 => ?_
        refine wp_region_lit ?_
        refine sq hA (q_loadW hH 0 rfl Tryd.underlying29 rfl ti29 rfl (by first | omega | (simp; done) | (simp; omega) | (simp [*]; done) | (simp [*]; omega))) rfl fun a hA => ?_
        refine sq hA (q_build (v := (.agg ((List.replicate 8 0#32).map U32).toArray)) (vs := []) rfl (fun w => by kernel_rfl)) rfl fun a hA => ?_
        refine sq hA (Runs.bt (q_eqlA32 (p := List.replicate 8 0#32) (q := List.replicate 8 0#32) eqa29 rfl rfl rfl rfl (by first | rfl | assumption | exact sha_length _ | (simp; done) | (simp [*]; done)) (by first | rfl | assumption | exact sha_length _ | (simp; done) | (simp [*]; done))) (by rfl)) rfl fun a hA => ?_
        refine sq hA (q_move rfl) rfl fun a hA => ?_
        refine gq hA rfl rfl (q_move rfl) rfl fun a hA => ?_
        refine gq hA rfl rfl (Runs.bt (q_eqlI (n := 1) rfl rfl) (by rfl)) rfl fun a hA => ?_
        refine sq hA (q_pick_t rfl rfl) rfl fun a hA => ?_
        refine sq hA (q_move rfl) rfl fun a hA => ?_
        refine gl hA rfl rfl (lo_call fn15 rfl (awake_any (hg.mono0 hH))) rfl ?_
        rintro _ w ⟨rfl, hC⟩ a hA
        replace hH := HS.call0 hH hC
        clear hC
        refine sq hA (q_pick_t rfl rfl) rfl fun a hA => ?_
        refine sq hA (q_assign rfl) rfl fun a hA => ?_
        refine wpList_nil ?_
        refine hK8 _ _ ?_
        clear hK8
        replace hA := hA.sub (E' := [(4, _), (6, _), (5, _), (2, _), (1, _)]) ⟨rfl, rfl, rfl, rfl, rfl, trivial⟩
        refine wp_ret ?_
        refine then_ret ?_
        refine post_ret hA (res_1 rfl hA rfl) ?_
        replace hH := hH.pick [] (Hs' := []) rfl
        exact ⟨_, rfl, rfl, hH⟩
    · skip
      refine oneL hA 8 rfl (lo_allocA hH ti29) rfl (listed' := #[true, true, true, false, false, false, false, false, true, false, false]) rfl ?_
      clear hH; rintro _ w ⟨b_t5, rfl, hH⟩
      have hS' := hH.pick [2] (Hs' := [_]) rfl
      replace hS := hS'; clear hS'
      refine ⟨fun _ _ => hS, ?_⟩
      intro a hA
      replace hH := hH.pick [1, 0, 2] (Hs' := [_, _, _]) rfl
      refine al hA 3 rfl (by kernel_rfl) (lo_appm hH Tryd.underlying22 Tryd.underlying22 (.inl rfl) ti5 rfl rfl rfl hO_t9 (Rd.src (hH.rd hr)) (one_B8 _) (by first | omega | (simp; done) | (simp; omega)) (by first | omega | (simp; done) | (simp; omega))) rfl (listed' := #[true, true, true, true, false, false, false, false, true, false, false]) rfl ?_
      clear hH; rintro v_t11 w ⟨N_t11, hO_t11, hH⟩
      have hS' := hH.pick [2] (Hs' := [_]) rfl
      replace hS := hS'; clear hS'
      refine ⟨fun _ _ => hS, ?_⟩
      intro a hA
      refine al hA 4 rfl (by kernel_rfl) (lo_call fn18 rfl (block_bad s v_t11 ([] ++ l) hs (Own.rd0 hO_t11 hH 0 rfl) h64)) rfl (listed' := #[true, true, true, true, true, false, false, false, true, false, false]) rfl ?_
      rintro _ w ⟨rfl, hC⟩
      replace hH := HS.call0 hH hC
      clear hC
      refine ⟨fun _ h => absurd h (by decide), ?_⟩
      intro a hA
      refine apq hA 5 rfl (by kernel_rfl) (by intro c a d v w h; cases d <;> exact h) (fun w => (q_move rfl)) rfl (listed' := #[true, true, true, true, true, true, false, false, true, false, false]) rfl fun a hA => ?_
      refine apq hA 6 rfl (by kernel_rfl) (by intro c a d v w h; cases d <;> exact h) (fun w => (q_extract rfl rfl)) rfl (listed' := #[true, true, true, true, true, true, true, false, true, false, false]) rfl fun a hA => ?_
      refine apq hA 7 rfl (by kernel_rfl) (by intro c a d v w h; cases d <;> exact h) (fun w => (q_extract rfl rfl)) rfl (listed' := #[true, true, true, true, true, true, true, true, true, false, false]) rfl fun a hA => ?_
      replace hH := hH.pick [1, 0, 2] (Hs' := [_, _, _]) rfl
      refine al0 hA 9 rfl (by kernel_rfl) (lo_storeAm hH ti29 rfl rfl (by first | rfl | (simp; done)) (by first | rfl | (simp; done)) (one_U32 _)) (listed' := #[true, true, true, true, true, true, true, true, true, true, false]) rfl ?_
      clear hH; rintro _ w hH
      refine ⟨fun _ h => absurd h (by decide), ?_⟩
      refine apq hA 10 rfl (by kernel_rfl) (by intro c a d v w h; cases d <;> exact h) (fun w => (q_assign rfl)) rfl (listed' := #[true, true, true, true, true, true, true, true, true, true, true]) rfl fun a hA => ?_
      refine a_end (by kernel_rfl) ?_ _
      refine hK2 _ _ ?_
      clear hK2
      replace hA := hA.sub (E' := [(6, _), (5, _), (4, _), (2, _), (1, _)]) ⟨rfl, rfl, rfl, rfl, rfl, trivial⟩
      refine wp_seq_k fun K9 hK9 => ?_
      refine wp_seq_k fun K10 hK10 => ?_
      refine wp_region_lit ?_
      refine sq hA (q_move rfl) rfl fun a hA => ?_
      refine sq hA (q_len Tryd.underlying22 rfl (Rd.shp hr)) rfl fun a hA => ?_
      refine sq hA (q_neqI (n := 64) rfl rfl) rfl fun a hA => ?_
      refine wpList_nil ?_
      refine hK10 _ _ ?_
      clear hK10
      replace hA := hA.sub (E' := [(17, _), (6, _), (5, _), (4, _), (2, _), (1, _)]) ⟨rfl, rfl, rfl, rfl, rfl, rfl, trivial⟩
      refine cond_d hA rfl (fun _ => ?_) (fun hn => absurd (by omega) hn)
      refine wp_seq_k fun K11 hK11 => ?_
      refine wp_region_lit ?_
      refine sq hA (q_loadW hH 0 rfl Tryd.underlying29 rfl ti29 rfl (by first | omega | (simp; done) | (simp; omega) | (simp [*]; done) | (simp [*]; omega))) rfl fun a hA => ?_
      refine sq hA (q_build (v := (.agg ((List.replicate 8 0#32).map U32).toArray)) (vs := []) rfl (fun w => by kernel_rfl)) rfl fun a hA => ?_
      refine sq hA (Runs.bt (q_eqlA32 (p := List.replicate 8 0#32) (q := List.replicate 8 0#32) eqa29 rfl rfl rfl rfl (by first | rfl | assumption | exact sha_length _ | (simp; done) | (simp [*]; done)) (by first | rfl | assumption | exact sha_length _ | (simp; done) | (simp [*]; done))) (by rfl)) rfl fun a hA => ?_
      refine sq hA (q_move rfl) rfl fun a hA => ?_
      refine gq hA rfl rfl (q_move rfl) rfl fun a hA => ?_
      refine gq hA rfl rfl (Runs.bt (q_eqlI (n := 1) rfl rfl) (by rfl)) rfl fun a hA => ?_
      refine sq hA (q_pick_t rfl rfl) rfl fun a hA => ?_
      refine sq hA (q_move rfl) rfl fun a hA => ?_
      refine gl hA rfl rfl (lo_call fn15 rfl (awake_any (hg.mono0 hH))) rfl ?_
      rintro _ w ⟨rfl, hC⟩ a hA
      replace hH := HS.call0 hH hC
      clear hC
      refine sq hA (q_pick_t rfl rfl) rfl fun a hA => ?_
      refine sq hA (q_assign rfl) rfl fun a hA => ?_
      refine wpList_nil ?_
      refine hK11 _ _ ?_
      clear hK11
      replace hA := hA.sub (E' := [(4, _), (6, _), (5, _), (2, _), (1, _)]) ⟨rfl, rfl, rfl, rfl, rfl, trivial⟩
      refine wp_ret ?_
      refine then_ret ?_
      refine post_ret hA (res_1 rfl hA rfl) ?_
      replace hH := hH.pick [] (Hs' := []) rfl
      exact ⟨_, rfl, rfl, hH⟩
  · skip
    refine oneL hA 8 rfl (lo_allocA hH ti29) rfl (listed' := #[true, false, true, false, false, false, false, false, true, false, false]) rfl ?_
    clear hH; rintro _ w ⟨b_t5, rfl, hH⟩
    have hS' := hH.pick [1] (Hs' := [_]) rfl
    replace hS := hS'; clear hS'
    refine ⟨fun _ _ => hS, ?_⟩
    intro a hA
    refine al hA 1 rfl (by kernel_rfl) (lo_bs (f := B8) (e := 5) ([]) hH rfl rfl (fun w => by kernel_rfl)) rfl (listed' := #[true, true, true, false, false, false, false, false, true, false, false]) rfl ?_
    clear hH; rintro v_t9 w ⟨N_t9, hO_t9, hH⟩
    have hS' := hH.pick [2] (Hs' := [_]) rfl
    replace hS := hS'; clear hS'
    refine ⟨fun _ _ => hS, ?_⟩
    intro a hA
    refine al hA 3 rfl (by kernel_rfl) (lo_appm hH Tryd.underlying22 Tryd.underlying22 (.inl rfl) ti5 rfl rfl rfl hO_t9 (Rd.src (hH.rd hr)) (one_B8 _) (by first | omega | (simp; done) | (simp; omega)) (by first | omega | (simp; done) | (simp; omega))) rfl (listed' := #[true, true, true, true, false, false, false, false, true, false, false]) rfl ?_
    clear hH; rintro v_t11 w ⟨N_t11, hO_t11, hH⟩
    have hS' := hH.pick [2] (Hs' := [_]) rfl
    replace hS := hS'; clear hS'
    refine ⟨fun _ _ => hS, ?_⟩
    intro a hA
    refine al hA 4 rfl (by kernel_rfl) (lo_call fn18 rfl (block_bad s v_t11 ([] ++ l) hs (Own.rd0 hO_t11 hH 0 rfl) h64)) rfl (listed' := #[true, true, true, true, true, false, false, false, true, false, false]) rfl ?_
    rintro _ w ⟨rfl, hC⟩
    replace hH := HS.call0 hH hC
    clear hC
    refine ⟨fun _ h => absurd h (by decide), ?_⟩
    intro a hA
    refine apq hA 5 rfl (by kernel_rfl) (by intro c a d v w h; cases d <;> exact h) (fun w => (q_move rfl)) rfl (listed' := #[true, true, true, true, true, true, false, false, true, false, false]) rfl fun a hA => ?_
    refine apq hA 6 rfl (by kernel_rfl) (by intro c a d v w h; cases d <;> exact h) (fun w => (q_extract rfl rfl)) rfl (listed' := #[true, true, true, true, true, true, true, false, true, false, false]) rfl fun a hA => ?_
    refine apq hA 7 rfl (by kernel_rfl) (by intro c a d v w h; cases d <;> exact h) (fun w => (q_extract rfl rfl)) rfl (listed' := #[true, true, true, true, true, true, true, true, true, false, false]) rfl fun a hA => ?_
    replace hH := hH.pick [1, 0, 2] (Hs' := [_, _, _]) rfl
    refine al0 hA 9 rfl (by kernel_rfl) (lo_storeAm hH ti29 rfl rfl (by first | rfl | (simp; done)) (by first | rfl | (simp; done)) (one_U32 _)) (listed' := #[true, true, true, true, true, true, true, true, true, true, false]) rfl ?_
    clear hH; rintro _ w hH
    refine ⟨fun _ h => absurd h (by decide), ?_⟩
    refine apq hA 10 rfl (by kernel_rfl) (by intro c a d v w h; cases d <;> exact h) (fun w => (q_assign rfl)) rfl (listed' := #[true, true, true, true, true, true, true, true, true, true, true]) rfl fun a hA => ?_
    refine a_end (by kernel_rfl) ?_ _
    refine hK2 _ _ ?_
    clear hK2
    replace hA := hA.sub (E' := [(6, _), (5, _), (4, _), (2, _), (1, _)]) ⟨rfl, rfl, rfl, rfl, rfl, trivial⟩
    refine wp_seq_k fun K12 hK12 => ?_
    refine wp_seq_k fun K13 hK13 => ?_
    refine wp_region_lit ?_
    refine sq hA (q_move rfl) rfl fun a hA => ?_
    refine sq hA (q_len Tryd.underlying22 rfl (Rd.shp hr)) rfl fun a hA => ?_
    refine sq hA (q_neqI (n := 64) rfl rfl) rfl fun a hA => ?_
    refine wpList_nil ?_
    refine hK13 _ _ ?_
    clear hK13
    replace hA := hA.sub (E' := [(17, _), (6, _), (5, _), (4, _), (2, _), (1, _)]) ⟨rfl, rfl, rfl, rfl, rfl, rfl, trivial⟩
    refine cond_d hA rfl (fun _ => ?_) (fun hn => absurd (by omega) hn)
    refine wp_seq_k fun K14 hK14 => ?_
    refine wp_region_lit ?_
    refine sq hA (q_loadW hH 0 rfl Tryd.underlying29 rfl ti29 rfl (by first | omega | (simp; done) | (simp; omega) | (simp [*]; done) | (simp [*]; omega))) rfl fun a hA => ?_
    refine sq hA (q_build (v := (.agg ((List.replicate 8 0#32).map U32).toArray)) (vs := []) rfl (fun w => by kernel_rfl)) rfl fun a hA => ?_
    refine sq hA (Runs.bt (q_eqlA32 (p := List.replicate 8 0#32) (q := List.replicate 8 0#32) eqa29 rfl rfl rfl rfl (by first | rfl | assumption | exact sha_length _ | (simp; done) | (simp [*]; done)) (by first | rfl | assumption | exact sha_length _ | (simp; done) | (simp [*]; done))) (by rfl)) rfl fun a hA => ?_
    refine sq hA (q_move rfl) rfl fun a hA => ?_
    refine gq hA rfl rfl (q_move rfl) rfl fun a hA => ?_
    refine gq hA rfl rfl (Runs.bt (q_eqlI (n := 1) rfl rfl) (by rfl)) rfl fun a hA => ?_
    refine sq hA (q_pick_t rfl rfl) rfl fun a hA => ?_
    refine sq hA (q_move rfl) rfl fun a hA => ?_
    refine gl hA rfl rfl (lo_call fn15 rfl (awake_any (hg.mono0 hH))) rfl ?_
    rintro _ w ⟨rfl, hC⟩ a hA
    replace hH := HS.call0 hH hC
    clear hC
    refine sq hA (q_pick_t rfl rfl) rfl fun a hA => ?_
    refine sq hA (q_assign rfl) rfl fun a hA => ?_
    refine wpList_nil ?_
    refine hK14 _ _ ?_
    clear hK14
    replace hA := hA.sub (E' := [(4, _), (6, _), (5, _), (2, _), (1, _)]) ⟨rfl, rfl, rfl, rfl, rfl, trivial⟩
    refine wp_ret ?_
    refine then_ret ?_
    refine post_ret hA (res_1 rfl hA rfl) ?_
    replace hH := hH.pick [] (Hs' := []) rfl
    exact ⟨_, rfl, rfl, hH⟩

theorem shaBlocks_ok {w0 : World} {lv : Nat} (hg : Gl (lv + 1) w0) (s : List W) (v : Value) (l : Bs) (hs : s.length = 8) (hr : By [] w0 v l) (hl : l.length = 64) :
    Calls Tryd.prog 4 #[(.agg (s.map U32).toArray), v] w0 (Ret fun r w' => r = .bool true ∧ HS [] w0 w' []) := by
  have hH := HS.start w0
  refine start (n := 40) (E := [(0, _), (1, _)]) Tryd.func4 rfl rfl rfl (args_look rfl) ?_
  intro a hA
  refine wp_seq_k fun K1 hK1 => ?_
  refine wp_region_lit ?_
  refine sl hA (lo_boxA hH rfl) rfl ?_
  clear hH; rintro _ w ⟨b_t2, rfl, hH⟩ a hA
  refine sq hA (q_assign rfl) rfl fun a hA => ?_
  refine wpList_nil ?_
  refine hK1 _ _ ?_
  clear hK1
  replace hA := hA.sub (E' := [(4, _), (2, _), (1, _)]) ⟨rfl, rfl, rfl, trivial⟩
  refine wp_seq_k fun K2 hK2 => ?_
  refine any_go mixed (fun j => !(Nat.beq j 4 || Nat.beq j 9)) hH ?_
  clear hH; intro w hH
  have hS := hH
  change wpK _ _ _ _ _ _ 11 #[false, false, false, false, false, false, false, false, false, false, false] _ _
  refine aq hA 0 rfl (by kernel_rfl) (by intro c a d v w h; cases d <;> exact h) hS (fun w hH => (q_loadW hH 0 rfl Tryd.underlying29 rfl ti29 rfl (by first | omega | (simp; done) | (simp; omega) | (simp [*]; done) | (simp [*]; omega)))) rfl (listed' := #[true, false, false, false, false, false, false, false, false, false, false]) rfl fun a hA => ?_
  refine apq hA 2 rfl (by kernel_rfl) (by intro c a d v w h; cases d <;> exact h) (fun w => (q_move rfl)) rfl (listed' := #[true, false, true, false, false, false, false, false, false, false, false]) rfl fun a hA => ?_
  refine a_ch2 (i := 1) (j := 8) (by kernel_rfl) ?_ ?_
  · skip
    refine oneL hA 1 rfl (lo_bs (f := B8) (e := 5) ([]) hH rfl rfl (fun w => by kernel_rfl)) rfl (listed' := #[true, true, true, false, false, false, false, false, false, false, false]) rfl ?_
    clear hH; rintro v_t9 w ⟨N_t9, hO_t9, hH⟩
    have hS' := hH.pick [1] (Hs' := [_]) rfl
    replace hS := hS'; clear hS'
    refine ⟨fun _ _ => hS, ?_⟩
    intro a hA
    refine a_ch2 (i := 3) (j := 8) (by kernel_rfl) ?_ ?_
    · skip
      refine oneL hA 3 rfl (lo_appm hH Tryd.underlying22 Tryd.underlying22 (.inl rfl) ti5 rfl rfl rfl hO_t9 (Rd.src (hH.rd hr)) (one_B8 _) (by first | omega | (simp; done) | (simp; omega)) (by first | omega | (simp; done) | (simp; omega))) rfl (listed' := #[true, true, true, true, false, false, false, false, false, false, false]) rfl ?_
      clear hH; rintro v_t11 w ⟨N_t11, hO_t11, hH⟩
      have hS' := hH.pick [1] (Hs' := [_]) rfl
      replace hS := hS'; clear hS'
      refine ⟨fun _ _ => hS, ?_⟩
      intro a hA
      refine a_ch2 (i := 4) (j := 8) (by kernel_rfl) ?_ ?_
      · skip
        refine oneL hA 4 rfl (lo_call fn18 rfl (block_any (hg.mono0 hH) s v_t11 ([] ++ l) hs (Own.rd0 hO_t11 hH 0 rfl) hl)) rfl (listed' := #[true, true, true, true, true, false, false, false, false, false, false]) rfl ?_
        rintro _ w ⟨rfl, hC⟩
        replace hH := HS.call0 hH hC
        clear hC
        refine ⟨fun _ h => absurd h (by decide), ?_⟩
        intro a hA
        refine apq hA 5 rfl (by kernel_rfl) (by intro c a d v w h; cases d <;> exact h) (fun w => (q_move rfl)) rfl (listed' := #[true, true, true, true, true, true, false, false, false, false, false]) rfl fun a hA => ?_
        refine apq hA 6 rfl (by kernel_rfl) (by intro c a d v w h; cases d <;> exact h) (fun w => (q_extract rfl rfl)) rfl (listed' := #[true, true, true, true, true, true, true, false, false, false, false]) rfl fun a hA => ?_
        refine apq hA 7 rfl (by kernel_rfl) (by intro c a d v w h; cases d <;> exact h) (fun w => (q_extract rfl rfl)) rfl (listed' := #[true, true, true, true, true, true, true, true, false, false, false]) rfl fun a hA => ?_
        refine al hA 8 rfl (by kernel_rfl) (lo_allocA hH ti29) rfl (listed' := #[true, true, true, true, true, true, true, true, true, false, false]) rfl ?_
        clear hH; rintro _ w ⟨b_t5, rfl, hH⟩
        have hS' := hH.pick [2] (Hs' := [_]) rfl
        replace hS := hS'; clear hS'
        refine ⟨fun _ _ => hS, ?_⟩
        intro a hA
        refine al0 hA 9 rfl (by kernel_rfl) (lo_storeAm hH ti29 rfl rfl (by first | rfl | (simp; done)) (by first | rfl | (simp; done)) (one_U32 _)) (listed' := #[true, true, true, true, true, true, true, true, true, true, false]) rfl ?_
        clear hH; rintro _ w hH
        refine ⟨fun _ h => absurd h (by decide), ?_⟩
        refine apq hA 10 rfl (by kernel_rfl) (by intro c a d v w h; cases d <;> exact h) (fun w => (q_assign rfl)) rfl (listed' := #[true, true, true, true, true, true, true, true, true, true, true]) rfl fun a hA => ?_
        refine a_end (by kernel_rfl) ?_ _
        refine hK2 _ _ ?_
        clear hK2
        replace hA := hA.sub (E' := [(6, _), (5, _), (4, _), (2, _), (1, _)]) ⟨rfl, rfl, rfl, rfl, rfl, trivial⟩
        refine wp_seq_k fun K3 hK3 => ?_
        refine wp_seq_k fun K4 hK4 => ?_
        refine wp_region_lit ?_
        refine sq hA (q_move rfl) rfl fun a hA => ?_
        refine sq hA (q_len Tryd.underlying22 rfl (Rd.shp hr)) rfl fun a hA => ?_
        refine sq hA (q_neqI (n := 64) rfl rfl) rfl fun a hA => ?_
        refine wpList_nil ?_
        refine hK4 _ _ ?_
        clear hK4
        replace hA := hA.sub (E' := [(17, _), (6, _), (5, _), (4, _), (2, _), (1, _)]) ⟨rfl, rfl, rfl, rfl, rfl, rfl, trivial⟩
        refine cond_d hA rfl (fun hn => absurd hn (by omega)) (fun _ => ?_)
        refine wp_skip ?_
        refine hK3 _ _ ?_
        clear hK3
        replace hA := hA.sub (E' := [(6, _), (5, _), (4, _), (2, _), (1, _)]) ⟨rfl, rfl, rfl, rfl, rfl, trivial⟩
        refine wp_seq_k fun K5 hK5 => ?_
        refine any_go mixed (fun _ => true) hH ?_
        clear hH; intro w hH
        have hS := hH
        change wpK _ _ _ _ _ _ 13 #[false, false, false, false, false, false, false, false, false, false, false, false, false] _ _
        refine aq hA 0 rfl (by kernel_rfl) (by intro c a d v w h; cases d <;> exact h) hS (fun w hH => (q_loadW hH 0 rfl Tryd.underlying29 rfl ti29 rfl (by first | omega | (simp; done) | (simp; omega) | (simp [*]; done) | (simp [*]; omega)))) rfl (listed' := #[true, false, false, false, false, false, false, false, false, false, false, false, false]) rfl fun a hA => ?_
        refine aq hA 1 rfl (by kernel_rfl) (by intro c a d v w h; cases d <;> exact h) hS (fun w hH => (q_loadW hH 2 rfl Tryd.underlying29 rfl ti29 rfl (by first | omega | (simp; done) | (simp; omega) | (simp [*]; done) | (simp [*]; omega)))) rfl (listed' := #[true, true, false, false, false, false, false, false, false, false, false, false, false]) rfl fun a hA => ?_
        refine apq hA 2 rfl (by kernel_rfl) (by intro c a d v w h; cases d <;> exact h) (fun w => (q_move rfl)) rfl (listed' := #[true, true, true, false, false, false, false, false, false, false, false, false, false]) rfl fun a hA => ?_
        refine al hA 3 rfl (by kernel_rfl) (lo_call fn19 rfl (refblock_any (hg.mono0 hH) s v l hs (hH.rd hr) hl)) rfl (listed' := #[true, true, true, true, false, false, false, false, false, false, false, false, false]) rfl ?_
        rintro _ w ⟨rfl, hC⟩
        replace hH := HS.call0 hH hC
        clear hC
        have hS' := hH.pick [0, 1, 2] (Hs' := [_, _, _]) rfl
        replace hS := hS'; clear hS'
        refine ⟨fun _ _ => hS, ?_⟩
        intro a hA
        refine apq hA 4 rfl (by kernel_rfl) (by intro c a d v w h; cases d <;> exact h) (fun w => (Runs.bt (q_eqlA32 (p := blk s l) (q := blk s l) eqa29 rfl rfl rfl rfl (by first | rfl | assumption | exact sha_length _ | (simp; done) | (simp [*]; done)) (by first | rfl | assumption | exact sha_length _ | (simp; done) | (simp [*]; done))) (by rfl))) rfl (listed' := #[true, true, true, true, true, false, false, false, false, false, false, false, false]) rfl fun a hA => ?_
        refine apq hA 5 rfl (by kernel_rfl) (by intro c a d v w h; cases d <;> exact h) (fun w => (q_move rfl)) rfl (listed' := #[true, true, true, true, true, true, false, false, false, false, false, false, false]) rfl fun a hA => ?_
        refine apgq hA 6 rfl (by kernel_rfl) rfl rfl (by intro c a d v w h; cases d <;> exact h) (fun w => (q_move rfl)) rfl (listed' := #[true, true, true, true, true, true, true, false, false, false, false, false, false]) rfl fun a hA => ?_
        refine apgq hA 7 rfl (by kernel_rfl) rfl rfl (by intro c a d v w h; cases d <;> exact h) (fun w => (Runs.bt (q_eqlI (n := 0) rfl rfl) (by rfl))) rfl (listed' := #[true, true, true, true, true, true, true, true, false, false, false, false, false]) rfl fun a hA => ?_
        refine apq hA 8 rfl (by kernel_rfl) (by intro c a d v w h; cases d <;> exact h) (fun w => (q_pick_t rfl rfl)) rfl (listed' := #[true, true, true, true, true, true, true, true, true, false, false, false, false]) rfl fun a hA => ?_
        refine apq hA 9 rfl (by kernel_rfl) (by intro c a d v w h; cases d <;> exact h) (fun w => (q_move rfl)) rfl (listed' := #[true, true, true, true, true, true, true, true, true, true, false, false, false]) rfl fun a hA => ?_
        refine agl hA 10 rfl (by kernel_rfl) rfl rfl (lo_call fn15 rfl (awake_any (hg.mono0 hH))) rfl (listed' := #[true, true, true, true, true, true, true, true, true, true, true, false, false]) rfl ?_
        rintro _ w ⟨rfl, hC⟩
        replace hH := HS.call0 hH hC
        clear hC
        have hS' := hH.pick [0, 1, 2] (Hs' := [_, _, _]) rfl
        replace hS := hS'; clear hS'
        refine ⟨fun _ _ => hS, ?_⟩
        intro a hA
        refine apq hA 11 rfl (by kernel_rfl) (by intro c a d v w h; cases d <;> exact h) (fun w => (q_pick_t rfl rfl)) rfl (listed' := #[true, true, true, true, true, true, true, true, true, true, true, true, false]) rfl fun a hA => ?_
        refine apq hA 12 rfl (by kernel_rfl) (by intro c a d v w h; cases d <;> exact h) (fun w => (q_assign rfl)) rfl (listed' := #[true, true, true, true, true, true, true, true, true, true, true, true, true]) rfl fun a hA => ?_
        refine a_end (by kernel_rfl) ?_ _
        refine hK5 _ _ ?_
        clear hK5
        replace hA := hA.sub (E' := [(4, _)]) ⟨rfl, trivial⟩
        refine wp_ret ?_
        refine post_ret hA (res_1 rfl hA rfl) ?_
        replace hH := hH.pick [] (Hs' := []) rfl
        exact ⟨_, rfl, rfl, hH⟩
      · skip
        refine oneL hA 8 rfl (lo_allocA hH ti29) rfl (listed' := #[true, true, true, true, false, false, false, false, true, false, false]) rfl ?_
        clear hH; rintro _ w ⟨b_t5, rfl, hH⟩
        have hS' := hH.pick [2] (Hs' := [_]) rfl
        replace hS := hS'; clear hS'
        refine ⟨fun _ _ => hS, ?_⟩
        intro a hA
        refine al hA 4 rfl (by kernel_rfl) (lo_call fn18 rfl (block_any (hg.mono0 hH) s v_t11 ([] ++ l) hs (Own.rd0 hO_t11 hH 1 rfl) hl)) rfl (listed' := #[true, true, true, true, true, false, false, false, true, false, false]) rfl ?_
        rintro _ w ⟨rfl, hC⟩
        replace hH := HS.call0 hH hC
        clear hC
        refine ⟨fun _ h => absurd h (by decide), ?_⟩
        intro a hA
        refine apq hA 5 rfl (by kernel_rfl) (by intro c a d v w h; cases d <;> exact h) (fun w => (q_move rfl)) rfl (listed' := #[true, true, true, true, true, true, false, false, true, false, false]) rfl fun a hA => ?_
        refine apq hA 6 rfl (by kernel_rfl) (by intro c a d v w h; cases d <;> exact h) (fun w => (q_extract rfl rfl)) rfl (listed' := #[true, true, true, true, true, true, true, false, true, false, false]) rfl fun a hA => ?_
        refine apq hA 7 rfl (by kernel_rfl) (by intro c a d v w h; cases d <;> exact h) (fun w => (q_extract rfl rfl)) rfl (listed' := #[true, true, true, true, true, true, true, true, true, false, false]) rfl fun a hA => ?_
        refine al0 hA 9 rfl (by kernel_rfl) (lo_storeAm hH ti29 rfl rfl (by first | rfl | (simp; done)) (by first | rfl | (simp; done)) (one_U32 _)) (listed' := #[true, true, true, true, true, true, true, true, true, true, false]) rfl ?_
        clear hH; rintro _ w hH
        refine ⟨fun _ h => absurd h (by decide), ?_⟩
        refine apq hA 10 rfl (by kernel_rfl) (by intro c a d v w h; cases d <;> exact h) (fun w => (q_assign rfl)) rfl (listed' := #[true, true, true, true, true, true, true, true, true, true, true]) rfl fun a hA => ?_
        refine a_end (by kernel_rfl) ?_ _
        refine hK2 _ _ ?_
        clear hK2
        replace hA := hA.sub (E' := [(6, _), (5, _), (4, _), (2, _), (1, _)]) ⟨rfl, rfl, rfl, rfl, rfl, trivial⟩
        refine wp_seq_k fun K6 hK6 => ?_
        refine wp_seq_k fun K7 hK7 => ?_
        refine wp_region_lit ?_
        refine sq hA (q_move rfl) rfl fun a hA => ?_
        refine sq hA (q_len Tryd.underlying22 rfl (Rd.shp hr)) rfl fun a hA => ?_
        refine sq hA (q_neqI (n := 64) rfl rfl) rfl fun a hA => ?_
        refine wpList_nil ?_
        refine hK7 _ _ ?_
        clear hK7
        replace hA := hA.sub (E' := [(17, _), (6, _), (5, _), (4, _), (2, _), (1, _)]) ⟨rfl, rfl, rfl, rfl, rfl, rfl, trivial⟩
        refine cond_d hA rfl (fun hn => absurd hn (by omega)) (fun _ => ?_)
        refine wp_skip ?_
        refine hK6 _ _ ?_
        clear hK6
        replace hA := hA.sub (E' := [(6, _), (5, _), (4, _), (2, _), (1, _)]) ⟨rfl, rfl, rfl, rfl, rfl, trivial⟩
        refine wp_seq_k fun K8 hK8 => ?_
        refine any_go mixed (fun _ => true) hH ?_
        clear hH; intro w hH
        have hS := hH
        change wpK _ _ _ _ _ _ 13 #[false, false, false, false, false, false, false, false, false, false, false, false, false] _ _
        refine aq hA 0 rfl (by kernel_rfl) (by intro c a d v w h; cases d <;> exact h) hS (fun w hH => (q_loadW hH 0 rfl Tryd.underlying29 rfl ti29 rfl (by first | omega | (simp; done) | (simp; omega) | (simp [*]; done) | (simp [*]; omega)))) rfl (listed' := #[true, false, false, false, false, false, false, false, false, false, false, false, false]) rfl fun a hA => ?_
        refine aq hA 1 rfl (by kernel_rfl) (by intro c a d v w h; cases d <;> exact h) hS (fun w hH => (q_loadW hH 2 rfl Tryd.underlying29 rfl ti29 rfl (by first | omega | (simp; done) | (simp; omega) | (simp [*]; done) | (simp [*]; omega)))) rfl (listed' := #[true, true, false, false, false, false, false, false, false, false, false, false, false]) rfl fun a hA => ?_
        refine apq hA 2 rfl (by kernel_rfl) (by intro c a d v w h; cases d <;> exact h) (fun w => (q_move rfl)) rfl (listed' := #[true, true, true, false, false, false, false, false, false, false, false, false, false]) rfl fun a hA => ?_
        refine al hA 3 rfl (by kernel_rfl) (lo_call fn19 rfl (refblock_any (hg.mono0 hH) s v l hs (hH.rd hr) hl)) rfl (listed' := #[true, true, true, true, false, false, false, false, false, false, false, false, false]) rfl ?_
        rintro _ w ⟨rfl, hC⟩
        replace hH := HS.call0 hH hC
        clear hC
        have hS' := hH.pick [0, 1, 2] (Hs' := [_, _, _]) rfl
        replace hS := hS'; clear hS'
        refine ⟨fun _ _ => hS, ?_⟩
        intro a hA
        refine apq hA 4 rfl (by kernel_rfl) (by intro c a d v w h; cases d <;> exact h) (fun w => (Runs.bt (q_eqlA32 (p := blk s l) (q := blk s l) eqa29 rfl rfl rfl rfl (by first | rfl | assumption | exact sha_length _ | (simp; done) | (simp [*]; done)) (by first | rfl | assumption | exact sha_length _ | (simp; done) | (simp [*]; done))) (by rfl))) rfl (listed' := #[true, true, true, true, true, false, false, false, false, false, false, false, false]) rfl fun a hA => ?_
        refine apq hA 5 rfl (by kernel_rfl) (by intro c a d v w h; cases d <;> exact h) (fun w => (q_move rfl)) rfl (listed' := #[true, true, true, true, true, true, false, false, false, false, false, false, false]) rfl fun a hA => ?_
        refine apgq hA 6 rfl (by kernel_rfl) rfl rfl (by intro c a d v w h; cases d <;> exact h) (fun w => (q_move rfl)) rfl (listed' := #[true, true, true, true, true, true, true, false, false, false, false, false, false]) rfl fun a hA => ?_
        refine apgq hA 7 rfl (by kernel_rfl) rfl rfl (by intro c a d v w h; cases d <;> exact h) (fun w => (Runs.bt (q_eqlI (n := 0) rfl rfl) (by rfl))) rfl (listed' := #[true, true, true, true, true, true, true, true, false, false, false, false, false]) rfl fun a hA => ?_
        refine apq hA 8 rfl (by kernel_rfl) (by intro c a d v w h; cases d <;> exact h) (fun w => (q_pick_t rfl rfl)) rfl (listed' := #[true, true, true, true, true, true, true, true, true, false, false, false, false]) rfl fun a hA => ?_
        refine apq hA 9 rfl (by kernel_rfl) (by intro c a d v w h; cases d <;> exact h) (fun w => (q_move rfl)) rfl (listed' := #[true, true, true, true, true, true, true, true, true, true, false, false, false]) rfl fun a hA => ?_
        refine agl hA 10 rfl (by kernel_rfl) rfl rfl (lo_call fn15 rfl (awake_any (hg.mono0 hH))) rfl (listed' := #[true, true, true, true, true, true, true, true, true, true, true, false, false]) rfl ?_
        rintro _ w ⟨rfl, hC⟩
        replace hH := HS.call0 hH hC
        clear hC
        have hS' := hH.pick [0, 1, 2] (Hs' := [_, _, _]) rfl
        replace hS := hS'; clear hS'
        refine ⟨fun _ _ => hS, ?_⟩
        intro a hA
        refine apq hA 11 rfl (by kernel_rfl) (by intro c a d v w h; cases d <;> exact h) (fun w => (q_pick_t rfl rfl)) rfl (listed' := #[true, true, true, true, true, true, true, true, true, true, true, true, false]) rfl fun a hA => ?_
        refine apq hA 12 rfl (by kernel_rfl) (by intro c a d v w h; cases d <;> exact h) (fun w => (q_assign rfl)) rfl (listed' := #[true, true, true, true, true, true, true, true, true, true, true, true, true]) rfl fun a hA => ?_
        refine a_end (by kernel_rfl) ?_ _
        refine hK8 _ _ ?_
        clear hK8
        replace hA := hA.sub (E' := [(4, _)]) ⟨rfl, trivial⟩
        refine wp_ret ?_
        refine post_ret hA (res_1 rfl hA rfl) ?_
        replace hH := hH.pick [] (Hs' := []) rfl
        exact ⟨_, rfl, rfl, hH⟩
    · skip
      refine oneL hA 8 rfl (lo_allocA hH ti29) rfl (listed' := #[true, true, true, false, false, false, false, false, true, false, false]) rfl ?_
      clear hH; rintro _ w ⟨b_t5, rfl, hH⟩
      have hS' := hH.pick [2] (Hs' := [_]) rfl
      replace hS := hS'; clear hS'
      refine ⟨fun _ _ => hS, ?_⟩
      intro a hA
      replace hH := hH.pick [1, 0, 2] (Hs' := [_, _, _]) rfl
      refine al hA 3 rfl (by kernel_rfl) (lo_appm hH Tryd.underlying22 Tryd.underlying22 (.inl rfl) ti5 rfl rfl rfl hO_t9 (Rd.src (hH.rd hr)) (one_B8 _) (by first | omega | (simp; done) | (simp; omega)) (by first | omega | (simp; done) | (simp; omega))) rfl (listed' := #[true, true, true, true, false, false, false, false, true, false, false]) rfl ?_
      clear hH; rintro v_t11 w ⟨N_t11, hO_t11, hH⟩
      have hS' := hH.pick [2] (Hs' := [_]) rfl
      replace hS := hS'; clear hS'
      refine ⟨fun _ _ => hS, ?_⟩
      intro a hA
      refine al hA 4 rfl (by kernel_rfl) (lo_call fn18 rfl (block_any (hg.mono0 hH) s v_t11 ([] ++ l) hs (Own.rd0 hO_t11 hH 0 rfl) hl)) rfl (listed' := #[true, true, true, true, true, false, false, false, true, false, false]) rfl ?_
      rintro _ w ⟨rfl, hC⟩
      replace hH := HS.call0 hH hC
      clear hC
      refine ⟨fun _ h => absurd h (by decide), ?_⟩
      intro a hA
      refine apq hA 5 rfl (by kernel_rfl) (by intro c a d v w h; cases d <;> exact h) (fun w => (q_move rfl)) rfl (listed' := #[true, true, true, true, true, true, false, false, true, false, false]) rfl fun a hA => ?_
      refine apq hA 6 rfl (by kernel_rfl) (by intro c a d v w h; cases d <;> exact h) (fun w => (q_extract rfl rfl)) rfl (listed' := #[true, true, true, true, true, true, true, false, true, false, false]) rfl fun a hA => ?_
      refine apq hA 7 rfl (by kernel_rfl) (by intro c a d v w h; cases d <;> exact h) (fun w => (q_extract rfl rfl)) rfl (listed' := #[true, true, true, true, true, true, true, true, true, false, false]) rfl fun a hA => ?_
      replace hH := hH.pick [1, 0, 2] (Hs' := [_, _, _]) rfl
      refine al0 hA 9 rfl (by kernel_rfl) (lo_storeAm hH ti29 rfl rfl (by first | rfl | (simp; done)) (by first | rfl | (simp; done)) (one_U32 _)) (listed' := #[true, true, true, true, true, true, true, true, true, true, false]) rfl ?_
      clear hH; rintro _ w hH
      refine ⟨fun _ h => absurd h (by decide), ?_⟩
      refine apq hA 10 rfl (by kernel_rfl) (by intro c a d v w h; cases d <;> exact h) (fun w => (q_assign rfl)) rfl (listed' := #[true, true, true, true, true, true, true, true, true, true, true]) rfl fun a hA => ?_
      refine a_end (by kernel_rfl) ?_ _
      refine hK2 _ _ ?_
      clear hK2
      replace hA := hA.sub (E' := [(6, _), (5, _), (4, _), (2, _), (1, _)]) ⟨rfl, rfl, rfl, rfl, rfl, trivial⟩
      refine wp_seq_k fun K9 hK9 => ?_
      refine wp_seq_k fun K10 hK10 => ?_
      refine wp_region_lit ?_
      refine sq hA (q_move rfl) rfl fun a hA => ?_
      refine sq hA (q_len Tryd.underlying22 rfl (Rd.shp hr)) rfl fun a hA => ?_
      refine sq hA (q_neqI (n := 64) rfl rfl) rfl fun a hA => ?_
      refine wpList_nil ?_
      refine hK10 _ _ ?_
      clear hK10
      replace hA := hA.sub (E' := [(17, _), (6, _), (5, _), (4, _), (2, _), (1, _)]) ⟨rfl, rfl, rfl, rfl, rfl, rfl, trivial⟩
      refine cond_d hA rfl (fun hn => absurd hn (by omega)) (fun _ => ?_)
      refine wp_skip ?_
      refine hK9 _ _ ?_
      clear hK9
      replace hA := hA.sub (E' := [(6, _), (5, _), (4, _), (2, _), (1, _)]) ⟨rfl, rfl, rfl, rfl, rfl, trivial⟩
      refine wp_seq_k fun K11 hK11 => ?_
      refine any_go mixed (fun _ => true) hH ?_
      clear hH; intro w hH
      have hS := hH
      change wpK _ _ _ _ _ _ 13 #[false, false, false, false, false, false, false, false, false, false, false, false, false] _ _
      refine aq hA 0 rfl (by kernel_rfl) (by intro c a d v w h; cases d <;> exact h) hS (fun w hH => (q_loadW hH 0 rfl Tryd.underlying29 rfl ti29 rfl (by first | omega | (simp; done) | (simp; omega) | (simp [*]; done) | (simp [*]; omega)))) rfl (listed' := #[true, false, false, false, false, false, false, false, false, false, false, false, false]) rfl fun a hA => ?_
      refine aq hA 1 rfl (by kernel_rfl) (by intro c a d v w h; cases d <;> exact h) hS (fun w hH => (q_loadW hH 2 rfl Tryd.underlying29 rfl ti29 rfl (by first | omega | (simp; done) | (simp; omega) | (simp [*]; done) | (simp [*]; omega)))) rfl (listed' := #[true, true, false, false, false, false, false, false, false, false, false, false, false]) rfl fun a hA => ?_
      refine apq hA 2 rfl (by kernel_rfl) (by intro c a d v w h; cases d <;> exact h) (fun w => (q_move rfl)) rfl (listed' := #[true, true, true, false, false, false, false, false, false, false, false, false, false]) rfl fun a hA => ?_
      refine al hA 3 rfl (by kernel_rfl) (lo_call fn19 rfl (refblock_any (hg.mono0 hH) s v l hs (hH.rd hr) hl)) rfl (listed' := #[true, true, true, true, false, false, false, false, false, false, false, false, false]) rfl ?_
      rintro _ w ⟨rfl, hC⟩
      replace hH := HS.call0 hH hC
      clear hC
      have hS' := hH.pick [0, 1, 2] (Hs' := [_, _, _]) rfl
      replace hS := hS'; clear hS'
      refine ⟨fun _ _ => hS, ?_⟩
      intro a hA
      refine apq hA 4 rfl (by kernel_rfl) (by intro c a d v w h; cases d <;> exact h) (fun w => (Runs.bt (q_eqlA32 (p := blk s l) (q := blk s l) eqa29 rfl rfl rfl rfl (by first | rfl | assumption | exact sha_length _ | (simp; done) | (simp [*]; done)) (by first | rfl | assumption | exact sha_length _ | (simp; done) | (simp [*]; done))) (by rfl))) rfl (listed' := #[true, true, true, true, true, false, false, false, false, false, false, false, false]) rfl fun a hA => ?_
      refine apq hA 5 rfl (by kernel_rfl) (by intro c a d v w h; cases d <;> exact h) (fun w => (q_move rfl)) rfl (listed' := #[true, true, true, true, true, true, false, false, false, false, false, false, false]) rfl fun a hA => ?_
      refine apgq hA 6 rfl (by kernel_rfl) rfl rfl (by intro c a d v w h; cases d <;> exact h) (fun w => (q_move rfl)) rfl (listed' := #[true, true, true, true, true, true, true, false, false, false, false, false, false]) rfl fun a hA => ?_
      refine apgq hA 7 rfl (by kernel_rfl) rfl rfl (by intro c a d v w h; cases d <;> exact h) (fun w => (Runs.bt (q_eqlI (n := 0) rfl rfl) (by rfl))) rfl (listed' := #[true, true, true, true, true, true, true, true, false, false, false, false, false]) rfl fun a hA => ?_
      refine apq hA 8 rfl (by kernel_rfl) (by intro c a d v w h; cases d <;> exact h) (fun w => (q_pick_t rfl rfl)) rfl (listed' := #[true, true, true, true, true, true, true, true, true, false, false, false, false]) rfl fun a hA => ?_
      refine apq hA 9 rfl (by kernel_rfl) (by intro c a d v w h; cases d <;> exact h) (fun w => (q_move rfl)) rfl (listed' := #[true, true, true, true, true, true, true, true, true, true, false, false, false]) rfl fun a hA => ?_
      refine agl hA 10 rfl (by kernel_rfl) rfl rfl (lo_call fn15 rfl (awake_any (hg.mono0 hH))) rfl (listed' := #[true, true, true, true, true, true, true, true, true, true, true, false, false]) rfl ?_
      rintro _ w ⟨rfl, hC⟩
      replace hH := HS.call0 hH hC
      clear hC
      have hS' := hH.pick [0, 1, 2] (Hs' := [_, _, _]) rfl
      replace hS := hS'; clear hS'
      refine ⟨fun _ _ => hS, ?_⟩
      intro a hA
      refine apq hA 11 rfl (by kernel_rfl) (by intro c a d v w h; cases d <;> exact h) (fun w => (q_pick_t rfl rfl)) rfl (listed' := #[true, true, true, true, true, true, true, true, true, true, true, true, false]) rfl fun a hA => ?_
      refine apq hA 12 rfl (by kernel_rfl) (by intro c a d v w h; cases d <;> exact h) (fun w => (q_assign rfl)) rfl (listed' := #[true, true, true, true, true, true, true, true, true, true, true, true, true]) rfl fun a hA => ?_
      refine a_end (by kernel_rfl) ?_ _
      refine hK11 _ _ ?_
      clear hK11
      replace hA := hA.sub (E' := [(4, _)]) ⟨rfl, trivial⟩
      refine wp_ret ?_
      refine post_ret hA (res_1 rfl hA rfl) ?_
      replace hH := hH.pick [] (Hs' := []) rfl
      exact ⟨_, rfl, rfl, hH⟩
  · skip
    refine oneL hA 8 rfl (lo_allocA hH ti29) rfl (listed' := #[true, false, true, false, false, false, false, false, true, false, false]) rfl ?_
    clear hH; rintro _ w ⟨b_t5, rfl, hH⟩
    have hS' := hH.pick [1] (Hs' := [_]) rfl
    replace hS := hS'; clear hS'
    refine ⟨fun _ _ => hS, ?_⟩
    intro a hA
    refine al hA 1 rfl (by kernel_rfl) (lo_bs (f := B8) (e := 5) ([]) hH rfl rfl (fun w => by kernel_rfl)) rfl (listed' := #[true, true, true, false, false, false, false, false, true, false, false]) rfl ?_
    clear hH; rintro v_t9 w ⟨N_t9, hO_t9, hH⟩
    have hS' := hH.pick [2] (Hs' := [_]) rfl
    replace hS := hS'; clear hS'
    refine ⟨fun _ _ => hS, ?_⟩
    intro a hA
    refine al hA 3 rfl (by kernel_rfl) (lo_appm hH Tryd.underlying22 Tryd.underlying22 (.inl rfl) ti5 rfl rfl rfl hO_t9 (Rd.src (hH.rd hr)) (one_B8 _) (by first | omega | (simp; done) | (simp; omega)) (by first | omega | (simp; done) | (simp; omega))) rfl (listed' := #[true, true, true, true, false, false, false, false, true, false, false]) rfl ?_
    clear hH; rintro v_t11 w ⟨N_t11, hO_t11, hH⟩
    have hS' := hH.pick [2] (Hs' := [_]) rfl
    replace hS := hS'; clear hS'
    refine ⟨fun _ _ => hS, ?_⟩
    intro a hA
    refine al hA 4 rfl (by kernel_rfl) (lo_call fn18 rfl (block_any (hg.mono0 hH) s v_t11 ([] ++ l) hs (Own.rd0 hO_t11 hH 0 rfl) hl)) rfl (listed' := #[true, true, true, true, true, false, false, false, true, false, false]) rfl ?_
    rintro _ w ⟨rfl, hC⟩
    replace hH := HS.call0 hH hC
    clear hC
    refine ⟨fun _ h => absurd h (by decide), ?_⟩
    intro a hA
    refine apq hA 5 rfl (by kernel_rfl) (by intro c a d v w h; cases d <;> exact h) (fun w => (q_move rfl)) rfl (listed' := #[true, true, true, true, true, true, false, false, true, false, false]) rfl fun a hA => ?_
    refine apq hA 6 rfl (by kernel_rfl) (by intro c a d v w h; cases d <;> exact h) (fun w => (q_extract rfl rfl)) rfl (listed' := #[true, true, true, true, true, true, true, false, true, false, false]) rfl fun a hA => ?_
    refine apq hA 7 rfl (by kernel_rfl) (by intro c a d v w h; cases d <;> exact h) (fun w => (q_extract rfl rfl)) rfl (listed' := #[true, true, true, true, true, true, true, true, true, false, false]) rfl fun a hA => ?_
    replace hH := hH.pick [1, 0, 2] (Hs' := [_, _, _]) rfl
    refine al0 hA 9 rfl (by kernel_rfl) (lo_storeAm hH ti29 rfl rfl (by first | rfl | (simp; done)) (by first | rfl | (simp; done)) (one_U32 _)) (listed' := #[true, true, true, true, true, true, true, true, true, true, false]) rfl ?_
    clear hH; rintro _ w hH
    refine ⟨fun _ h => absurd h (by decide), ?_⟩
    refine apq hA 10 rfl (by kernel_rfl) (by intro c a d v w h; cases d <;> exact h) (fun w => (q_assign rfl)) rfl (listed' := #[true, true, true, true, true, true, true, true, true, true, true]) rfl fun a hA => ?_
    refine a_end (by kernel_rfl) ?_ _
    refine hK2 _ _ ?_
    clear hK2
    replace hA := hA.sub (E' := [(6, _), (5, _), (4, _), (2, _), (1, _)]) ⟨rfl, rfl, rfl, rfl, rfl, trivial⟩
    refine wp_seq_k fun K12 hK12 => ?_
    refine wp_seq_k fun K13 hK13 => ?_
    refine wp_region_lit ?_
    refine sq hA (q_move rfl) rfl fun a hA => ?_
    refine sq hA (q_len Tryd.underlying22 rfl (Rd.shp hr)) rfl fun a hA => ?_
    refine sq hA (q_neqI (n := 64) rfl rfl) rfl fun a hA => ?_
    refine wpList_nil ?_
    refine hK13 _ _ ?_
    clear hK13
    replace hA := hA.sub (E' := [(17, _), (6, _), (5, _), (4, _), (2, _), (1, _)]) ⟨rfl, rfl, rfl, rfl, rfl, rfl, trivial⟩
    refine cond_d hA rfl (fun hn => absurd hn (by omega)) (fun _ => ?_)
    refine wp_skip ?_
    refine hK12 _ _ ?_
    clear hK12
    replace hA := hA.sub (E' := [(6, _), (5, _), (4, _), (2, _), (1, _)]) ⟨rfl, rfl, rfl, rfl, rfl, trivial⟩
    refine wp_seq_k fun K14 hK14 => ?_
    refine any_go mixed (fun _ => true) hH ?_
    clear hH; intro w hH
    have hS := hH
    change wpK _ _ _ _ _ _ 13 #[false, false, false, false, false, false, false, false, false, false, false, false, false] _ _
    refine aq hA 0 rfl (by kernel_rfl) (by intro c a d v w h; cases d <;> exact h) hS (fun w hH => (q_loadW hH 0 rfl Tryd.underlying29 rfl ti29 rfl (by first | omega | (simp; done) | (simp; omega) | (simp [*]; done) | (simp [*]; omega)))) rfl (listed' := #[true, false, false, false, false, false, false, false, false, false, false, false, false]) rfl fun a hA => ?_
    refine aq hA 1 rfl (by kernel_rfl) (by intro c a d v w h; cases d <;> exact h) hS (fun w hH => (q_loadW hH 2 rfl Tryd.underlying29 rfl ti29 rfl (by first | omega | (simp; done) | (simp; omega) | (simp [*]; done) | (simp [*]; omega)))) rfl (listed' := #[true, true, false, false, false, false, false, false, false, false, false, false, false]) rfl fun a hA => ?_
    refine apq hA 2 rfl (by kernel_rfl) (by intro c a d v w h; cases d <;> exact h) (fun w => (q_move rfl)) rfl (listed' := #[true, true, true, false, false, false, false, false, false, false, false, false, false]) rfl fun a hA => ?_
    refine al hA 3 rfl (by kernel_rfl) (lo_call fn19 rfl (refblock_any (hg.mono0 hH) s v l hs (hH.rd hr) hl)) rfl (listed' := #[true, true, true, true, false, false, false, false, false, false, false, false, false]) rfl ?_
    rintro _ w ⟨rfl, hC⟩
    replace hH := HS.call0 hH hC
    clear hC
    have hS' := hH.pick [0, 1, 2] (Hs' := [_, _, _]) rfl
    replace hS := hS'; clear hS'
    refine ⟨fun _ _ => hS, ?_⟩
    intro a hA
    refine apq hA 4 rfl (by kernel_rfl) (by intro c a d v w h; cases d <;> exact h) (fun w => (Runs.bt (q_eqlA32 (p := blk s l) (q := blk s l) eqa29 rfl rfl rfl rfl (by first | rfl | assumption | exact sha_length _ | (simp; done) | (simp [*]; done)) (by first | rfl | assumption | exact sha_length _ | (simp; done) | (simp [*]; done))) (by rfl))) rfl (listed' := #[true, true, true, true, true, false, false, false, false, false, false, false, false]) rfl fun a hA => ?_
    refine apq hA 5 rfl (by kernel_rfl) (by intro c a d v w h; cases d <;> exact h) (fun w => (q_move rfl)) rfl (listed' := #[true, true, true, true, true, true, false, false, false, false, false, false, false]) rfl fun a hA => ?_
    refine apgq hA 6 rfl (by kernel_rfl) rfl rfl (by intro c a d v w h; cases d <;> exact h) (fun w => (q_move rfl)) rfl (listed' := #[true, true, true, true, true, true, true, false, false, false, false, false, false]) rfl fun a hA => ?_
    refine apgq hA 7 rfl (by kernel_rfl) rfl rfl (by intro c a d v w h; cases d <;> exact h) (fun w => (Runs.bt (q_eqlI (n := 0) rfl rfl) (by rfl))) rfl (listed' := #[true, true, true, true, true, true, true, true, false, false, false, false, false]) rfl fun a hA => ?_
    refine apq hA 8 rfl (by kernel_rfl) (by intro c a d v w h; cases d <;> exact h) (fun w => (q_pick_t rfl rfl)) rfl (listed' := #[true, true, true, true, true, true, true, true, true, false, false, false, false]) rfl fun a hA => ?_
    refine apq hA 9 rfl (by kernel_rfl) (by intro c a d v w h; cases d <;> exact h) (fun w => (q_move rfl)) rfl (listed' := #[true, true, true, true, true, true, true, true, true, true, false, false, false]) rfl fun a hA => ?_
    refine agl hA 10 rfl (by kernel_rfl) rfl rfl (lo_call fn15 rfl (awake_any (hg.mono0 hH))) rfl (listed' := #[true, true, true, true, true, true, true, true, true, true, true, false, false]) rfl ?_
    rintro _ w ⟨rfl, hC⟩
    replace hH := HS.call0 hH hC
    clear hC
    have hS' := hH.pick [0, 1, 2] (Hs' := [_, _, _]) rfl
    replace hS := hS'; clear hS'
    refine ⟨fun _ _ => hS, ?_⟩
    intro a hA
    refine apq hA 11 rfl (by kernel_rfl) (by intro c a d v w h; cases d <;> exact h) (fun w => (q_pick_t rfl rfl)) rfl (listed' := #[true, true, true, true, true, true, true, true, true, true, true, true, false]) rfl fun a hA => ?_
    refine apq hA 12 rfl (by kernel_rfl) (by intro c a d v w h; cases d <;> exact h) (fun w => (q_assign rfl)) rfl (listed' := #[true, true, true, true, true, true, true, true, true, true, true, true, true]) rfl fun a hA => ?_
    refine a_end (by kernel_rfl) ?_ _
    refine hK14 _ _ ?_
    clear hK14
    replace hA := hA.sub (E' := [(4, _)]) ⟨rfl, trivial⟩
    refine wp_ret ?_
    refine post_ret hA (res_1 rfl hA rfl) ?_
    replace hH := hH.pick [] (Hs' := []) rfl
    exact ⟨_, rfl, rfl, hH⟩

end Go.Proofs.YtegjkoohpkchbaaDoor
