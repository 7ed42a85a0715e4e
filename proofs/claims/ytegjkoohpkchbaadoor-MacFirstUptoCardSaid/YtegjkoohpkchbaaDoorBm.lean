/- Layer 3 (mac): what is derived. -/
import Derived.Test.YtegjkoohpkchbaaDoorBi
import Derived.Test.YtegjkoohpkchbaaDoorMf
namespace Go.Proofs.YtegjkoohpkchbaaDoor
open Go
set_option linter.unusedVariables false
set_option linter.unusedSimpArgs false
set_option maxRecDepth 100000

theorem derive_neg {w0 : World} (u : Value) (st : ByteArray) (n : Int) (hn : n < 0) :
    Calls Tryd.prog 38 #[u, (.string st), I n] w0 (Ret fun r w' => r = .tuple #[.slice none 0 0, I 1] ∧ HS [] w0 w' []) := by
  have hH := HS.start w0
  refine start (n := 55) (E := [(0, _), (1, _), (2, _)]) Tryd.func38 rfl rfl rfl (args_look rfl) ?_
  intro a hA
  refine wp_seq_k fun K1 hK1 => ?_
  refine wp_region_lit ?_
  refine sq hA (q_assign rfl) rfl fun a hA => ?_
  refine sq hA (q_assign rfl) rfl fun a hA => ?_
  refine wpList_nil ?_
  refine hK1 _ _ ?_
  clear hK1
  refine wp_seq_k fun K2 hK2 => ?_
  refine wp_block ?_
  refine wp_seq_k fun K3 hK3 => ?_
  refine wp_region_lit ?_
  refine sq hA (q_move rfl) rfl fun a hA => ?_
  refine sq hA (q_lssI (n := 0) rfl rfl) rfl fun a hA => ?_
  refine sq hA (q_assign rfl) rfl fun a hA => ?_
  refine wpList_nil ?_
  refine hK3 _ _ ?_
  clear hK3
  replace hA := hA.sub (E' := [(15, _), (7, _), (6, _), (0, _), (1, _), (2, _)]) ⟨rfl, rfl, rfl, rfl, rfl, rfl, trivial⟩
  refine cond_d hA rfl (fun _ => ?_) (fun hnn => absurd (hn) hnn)
  refine wp_seq_k fun K4 hK4 => ?_
  refine wp_region_lit ?_
  refine sq hA (q_assign rfl) rfl fun a hA => ?_
  refine sq hA (q_assign rfl) rfl fun a hA => ?_
  refine wpList_nil ?_
  refine hK4 _ _ ?_
  clear hK4
  replace hA := hA.sub (E' := [(7, _), (6, _), (0, _), (1, _), (2, _)]) ⟨rfl, rfl, rfl, rfl, rfl, trivial⟩
  refine wp_ret ?_
  refine block_ret ?_
  refine then_ret ?_
  refine post_ret hA (res_2 rfl hA rfl rfl) ?_
  exact ⟨_, rfl, rfl, hH⟩

theorem derive_long {w0 : World} (u : Value) (st : ByteArray) (n : Int) (hn : 8160 < n) :
    Calls Tryd.prog 38 #[u, (.string st), I n] w0 (Ret fun r w' => r = .tuple #[.slice none 0 0, I 42] ∧ HS [] w0 w' []) := by
  have hH := HS.start w0
  refine start (n := 55) (E := [(0, _), (1, _), (2, _)]) Tryd.func38 rfl rfl rfl (args_look rfl) ?_
  intro a hA
  refine wp_seq_k fun K1 hK1 => ?_
  refine wp_region_lit ?_
  refine sq hA (q_assign rfl) rfl fun a hA => ?_
  refine sq hA (q_assign rfl) rfl fun a hA => ?_
  refine wpList_nil ?_
  refine hK1 _ _ ?_
  clear hK1
  refine wp_seq_k fun K2 hK2 => ?_
  refine wp_block ?_
  refine wp_seq_k fun K3 hK3 => ?_
  refine wp_region_lit ?_
  refine sq hA (q_move rfl) rfl fun a hA => ?_
  refine sq hA (q_lssI (n := 0) rfl rfl) rfl fun a hA => ?_
  refine sq hA (q_assign rfl) rfl fun a hA => ?_
  refine wpList_nil ?_
  refine hK3 _ _ ?_
  clear hK3
  replace hA := hA.sub (E' := [(15, _), (7, _), (6, _), (0, _), (1, _), (2, _)]) ⟨rfl, rfl, rfl, rfl, rfl, rfl, trivial⟩
  refine cond_d hA rfl (fun hnn => absurd hnn (by omega)) (fun _ => ?_)
  refine wp_seq_k fun K4 hK4 => ?_
  refine wp_region_lit ?_
  refine sq hA (q_move rfl) rfl fun a hA => ?_
  refine sq hA (q_gtrI (n := 8160) rfl rfl) rfl fun a hA => ?_
  refine sq hA (q_assign rfl) rfl fun a hA => ?_
  refine wpList_nil ?_
  refine hK4 _ _ ?_
  clear hK4
  replace hA := hA.sub (E' := [(18, _), (7, _), (6, _), (0, _), (1, _), (2, _)]) ⟨rfl, rfl, rfl, rfl, rfl, rfl, trivial⟩
  refine cond_d hA rfl (fun _ => ?_) (fun hnn => absurd (hn) hnn)
  refine wp_seq_k fun K5 hK5 => ?_
  refine wp_region_lit ?_
  refine sq hA (q_assign rfl) rfl fun a hA => ?_
  refine sq hA (q_assign rfl) rfl fun a hA => ?_
  refine wpList_nil ?_
  refine hK5 _ _ ?_
  clear hK5
  replace hA := hA.sub (E' := [(7, _), (6, _), (0, _), (1, _), (2, _)]) ⟨rfl, rfl, rfl, rfl, rfl, trivial⟩
  refine wp_ret ?_
  refine block_ret ?_
  refine then_ret ?_
  refine post_ret hA (res_2 rfl hA rfl rfl) ?_
  exact ⟨_, rfl, rfl, hH⟩

theorem refderive_neg {w0 : World} (u : Value) (st : ByteArray) (n : Int) (hn : n < 0) :
    Calls Tryd.prog 39 #[u, (.string st), I n] w0 (Ret fun r w' => r = .tuple #[.slice none 0 0, I 1] ∧ HS [] w0 w' []) := by
  have hH := HS.start w0
  refine start (n := 54) (E := [(0, _), (1, _), (2, _)]) Tryd.func39 rfl rfl rfl (args_look rfl) ?_
  intro a hA
  refine wp_seq_k fun K1 hK1 => ?_
  refine wp_region_lit ?_
  refine sq hA (q_assign rfl) rfl fun a hA => ?_
  refine sq hA (q_assign rfl) rfl fun a hA => ?_
  refine wpList_nil ?_
  refine hK1 _ _ ?_
  clear hK1
  refine wp_seq_k fun K2 hK2 => ?_
  refine wp_seq_k fun K3 hK3 => ?_
  refine wp_region_lit ?_
  refine sq hA (q_move rfl) rfl fun a hA => ?_
  refine sq hA (q_lssI (n := 0) rfl rfl) rfl fun a hA => ?_
  refine wpList_nil ?_
  refine hK3 _ _ ?_
  clear hK3
  replace hA := hA.sub (E' := [(15, _), (7, _), (6, _), (0, _), (1, _), (2, _)]) ⟨rfl, rfl, rfl, rfl, rfl, rfl, trivial⟩
  refine cond_d hA rfl (fun _ => ?_) (fun hnn => absurd (hn) hnn)
  refine wp_seq_k fun K4 hK4 => ?_
  refine wp_region_lit ?_
  refine sq hA (q_assign rfl) rfl fun a hA => ?_
  refine sq hA (q_assign rfl) rfl fun a hA => ?_
  refine wpList_nil ?_
  refine hK4 _ _ ?_
  clear hK4
  replace hA := hA.sub (E' := [(7, _), (6, _), (0, _), (1, _), (2, _)]) ⟨rfl, rfl, rfl, rfl, rfl, trivial⟩
  refine wp_ret ?_
  refine then_ret ?_
  refine post_ret hA (res_2 rfl hA rfl rfl) ?_
  exact ⟨_, rfl, rfl, hH⟩

theorem refderive_long {w0 : World} (u : Value) (st : ByteArray) (n : Int) (hn : 8160 < n) :
    Calls Tryd.prog 39 #[u, (.string st), I n] w0 (Ret fun r w' => r = .tuple #[.slice none 0 0, I 42] ∧ HS [] w0 w' []) := by
  have hH := HS.start w0
  refine start (n := 54) (E := [(0, _), (1, _), (2, _)]) Tryd.func39 rfl rfl rfl (args_look rfl) ?_
  intro a hA
  refine wp_seq_k fun K1 hK1 => ?_
  refine wp_region_lit ?_
  refine sq hA (q_assign rfl) rfl fun a hA => ?_
  refine sq hA (q_assign rfl) rfl fun a hA => ?_
  refine wpList_nil ?_
  refine hK1 _ _ ?_
  clear hK1
  refine wp_seq_k fun K2 hK2 => ?_
  refine wp_seq_k fun K3 hK3 => ?_
  refine wp_region_lit ?_
  refine sq hA (q_move rfl) rfl fun a hA => ?_
  refine sq hA (q_lssI (n := 0) rfl rfl) rfl fun a hA => ?_
  refine wpList_nil ?_
  refine hK3 _ _ ?_
  clear hK3
  replace hA := hA.sub (E' := [(15, _), (7, _), (6, _), (0, _), (1, _), (2, _)]) ⟨rfl, rfl, rfl, rfl, rfl, rfl, trivial⟩
  refine cond_d hA rfl (fun hnn => absurd hnn (by omega)) (fun _ => ?_)
  refine wp_skip ?_
  refine hK2 _ _ ?_
  clear hK2
  replace hA := hA.sub (E' := [(7, _), (6, _), (0, _), (1, _), (2, _)]) ⟨rfl, rfl, rfl, rfl, rfl, trivial⟩
  refine wp_seq_k fun K4 hK4 => ?_
  refine wp_seq_k fun K5 hK5 => ?_
  refine wp_region_lit ?_
  refine sq hA (q_move rfl) rfl fun a hA => ?_
  refine sq hA (q_gtrI (n := 8160) rfl rfl) rfl fun a hA => ?_
  refine wpList_nil ?_
  refine hK5 _ _ ?_
  clear hK5
  replace hA := hA.sub (E' := [(17, _), (7, _), (6, _), (0, _), (1, _), (2, _)]) ⟨rfl, rfl, rfl, rfl, rfl, rfl, trivial⟩
  refine cond_d hA rfl (fun _ => ?_) (fun hnn => absurd (hn) hnn)
  refine wp_seq_k fun K6 hK6 => ?_
  refine wp_region_lit ?_
  refine sq hA (q_assign rfl) rfl fun a hA => ?_
  refine sq hA (q_assign rfl) rfl fun a hA => ?_
  refine wpList_nil ?_
  refine hK6 _ _ ?_
  clear hK6
  replace hA := hA.sub (E' := [(7, _), (6, _), (0, _), (1, _), (2, _)]) ⟨rfl, rfl, rfl, rfl, rfl, trivial⟩
  refine wp_ret ?_
  refine then_ret ?_
  refine post_ret hA (res_2 rfl hA rfl rfl) ?_
  exact ⟨_, rfl, rfl, hH⟩

theorem derive_any {w0 : World} {lv : Nat} (hg : Gl lv w0) (u : Value) (k : Bs) (st : ByteArray) (n : Nat) (hu : By [] w0 u k) (hk : k.length ≤ 1000) (hst : st.size ≤ 1000) (hn : n ≤ 8160) :
    Calls Tryd.prog 38 #[u, (.string st), I n] w0 (Ret fun r w' => ∃ v N, r = .tuple #[v, I 0] ∧ Ow B8 5 v (drv k (sBytes st) n) N ∧ HS [] w0 w' [N]) := by
  have hH := HS.start w0
  refine start (n := 55) (E := [(0, _), (1, _), (2, _)]) Tryd.func38 rfl rfl rfl (args_look rfl) ?_
  intro a hA
  have hsb : (sBytes st).length = st.size := sBytes_length st
  have hbn := beB_length (BitVec.ofNat 64 n) 4
  refine wp_seq_k fun K1 hK1 => ?_
  refine wp_region_lit ?_
  refine sq hA (q_assign rfl) rfl fun a hA => ?_
  refine sq hA (q_assign rfl) rfl fun a hA => ?_
  refine wpList_nil ?_
  refine hK1 _ _ ?_
  clear hK1
  refine wp_seq_k fun K2 hK2 => ?_
  refine wp_block ?_
  refine wp_seq_k fun K3 hK3 => ?_
  refine wp_region_lit ?_
  refine sq hA (q_move rfl) rfl fun a hA => ?_
  refine sq hA (q_lssI (n := 0) rfl rfl) rfl fun a hA => ?_
  refine sq hA (q_assign rfl) rfl fun a hA => ?_
  refine wpList_nil ?_
  refine hK3 _ _ ?_
  clear hK3
  replace hA := hA.sub (E' := [(15, _), (7, _), (6, _), (0, _), (1, _), (2, _)]) ⟨rfl, rfl, rfl, rfl, rfl, rfl, trivial⟩
  refine cond_d hA rfl (fun hnn => absurd hnn (by omega)) (fun _ => ?_)
  refine wp_seq_k fun K4 hK4 => ?_
  refine wp_region_lit ?_
  refine sq hA (q_move rfl) rfl fun a hA => ?_
  refine sq hA (q_gtrI (n := 8160) rfl rfl) rfl fun a hA => ?_
  refine sq hA (q_assign rfl) rfl fun a hA => ?_
  refine wpList_nil ?_
  refine hK4 _ _ ?_
  clear hK4
  replace hA := hA.sub (E' := [(18, _), (7, _), (6, _), (0, _), (1, _), (2, _)]) ⟨rfl, rfl, rfl, rfl, rfl, rfl, trivial⟩
  refine cond_d hA rfl (fun hnn => absurd hnn (by omega)) (fun _ => ?_)
  refine wp_skip ?_
  refine block_normal ?_
  refine hK2 _ _ ?_
  clear hK2
  replace hA := hA.sub (E' := [(7, _), (6, _), (0, _), (1, _), (2, _)]) ⟨rfl, rfl, rfl, rfl, rfl, trivial⟩
  refine wp_seq_k fun K5 hK5 => ?_
  refine wp_region_lit ?_
  refine sq hA (q_assign rfl) rfl fun a hA => ?_
  refine wpList_nil ?_
  refine hK5 _ _ ?_
  clear hK5
  refine wp_seq_k fun K6 hK6 => ?_
  refine wp_region_lit ?_
  refine sq hA (q_move rfl) rfl fun a hA => ?_
  refine sq hA (q_cvI64 Tryd.underlying3 Tryd.underlying69 rfl) rfl fun a hA => ?_
  rw [BitVec.ofInt_natCast] at hA
  refine sl hA (lo_call fn44 rfl (bytes_any _ 4 (by decide))) rfl ?_
  rintro _ w ⟨v_t24, N_t24, rfl, hO_t24, hC⟩ a hA
  replace hH := HS.call0 hH hC
  clear hC
  refine sq hA (q_move rfl) rfl fun a hA => ?_
  refine sq hA (q_extract rfl rfl) rfl fun a hA => ?_
  refine sq hA (q_extract rfl rfl) rfl fun a hA => ?_
  refine sq hA (q_assign rfl) rfl fun a hA => ?_
  refine sq hA (q_assign rfl) rfl fun a hA => ?_
  refine wpList_nil ?_
  refine hK6 _ _ ?_
  clear hK6
  replace hA := hA.sub (E' := [(9, _), (8, _), (7, _), (6, _), (0, _), (1, _), (2, _)]) ⟨rfl, rfl, rfl, rfl, rfl, rfl, rfl, trivial⟩
  refine wp_seq_k fun K7 hK7 => ?_
  refine wp_seq_k fun K8 hK8 => ?_
  refine wp_region_lit ?_
  refine sq hA (q_assign rfl) rfl fun a hA => ?_
  refine wpList_nil ?_
  refine hK8 _ _ ?_
  clear hK8
  refine wp_block ?_
  replace hH := hH.nilFront
  refine wp_loop_ghost (fun gm a w => ∃ j : Nat, ∃ v_o : Value, ∃ N_o : Hl, At 55 [(11, (U64 (BitVec.ofNat 64 (j + 1)))), (9, v_t24), (8, v_o), (7, I 0), (6, (.slice none 0 0)), (0, u), (1, (.string st)), (2, I n)] a ∧ HS [] w0 w ([N_o, N_t24]) ∧ (32 * j < n + 32) ∧ (Ow B8 5 v_o (dv k (sBytes st) n j) N_o) ∧ gm = n + 32 - 32 * j) (n + 32 - 32 * (0)) ⟨0, (.slice none 0 0), [], hA.sub ⟨rfl, rfl, rfl, rfl, rfl, rfl, rfl, rfl, trivial⟩, hH, by omega, by exact Ow.nil B8 _, rfl⟩ ?_
  clear hA hH
  rintro gm a w ⟨j, v_o, N_o, hA, hH, hj, hO_o, rfl⟩
  refine wp_seq_k fun K9 hK9 => ?_
  refine wp_seq_k fun K10 hK10 => ?_
  refine wp_region_lit ?_
  refine sq hA (q_move rfl) rfl fun a hA => ?_
  refine sq hA (q_len Tryd.underlying22 rfl (Own.shp hO_o)) rfl fun a hA => ?_
  rw [show (((dv k (sBytes st) n j).length : Nat) : Int) = ((32 * j : Nat) : Int) by rw [dv_length]] at hA
  refine sq hA (q_move rfl) rfl fun a hA => ?_
  refine sq hA (q_lssI rfl rfl) rfl fun a hA => ?_
  refine wpList_nil ?_
  refine hK10 _ _ ?_
  clear hK10
  refine cond_d hA rfl (fun hc30 => ?_) (fun hc30 => ?_)
  · skip
    refine wp_skip ?_
    refine hK9 _ _ ?_
    clear hK9
    refine wp_seq_k fun K11 hK11 => ?_
    refine wp_block ?_
    refine wp_seq_k fun K12 hK12 => ?_
    refine wp_region_lit ?_
    refine sq hA (q_move rfl) rfl fun a hA => ?_
    refine sl hA (lo_call fn44 rfl (bytes_any _ 4 (by decide))) rfl ?_
    rintro _ w ⟨v_t35, N_t35, rfl, hO_t35, hC⟩ a hA
    replace hH := HS.call0 hH hC
    clear hC
    refine sq hA (q_move rfl) rfl fun a hA => ?_
    refine sq hA (q_extract rfl rfl) rfl fun a hA => ?_
    refine sq hA (q_extract rfl rfl) rfl fun a hA => ?_
    refine sq hA (q_assign rfl) rfl fun a hA => ?_
    refine sq hA (q_assign rfl) rfl fun a hA => ?_
    refine wpList_nil ?_
    refine hK12 _ _ ?_
    clear hK12
    replace hA := hA.sub (E' := [(12, _), (37, _), (36, _), (33, _), (35, _), (34, _), (30, _), (29, _), (28, _), (27, _), (11, _), (9, _), (8, _), (7, _), (6, _), (0, _), (1, _), (2, _)]) ⟨rfl, rfl, rfl, rfl, rfl, rfl, rfl, rfl, rfl, rfl, rfl, rfl, rfl, rfl, rfl, rfl, rfl, rfl, trivial⟩
    refine wp_seq_k fun K13 hK13 => ?_
    refine wp_region_lit ?_
    refine sq hA (q_move rfl) rfl fun a hA => ?_
    refine sq hA (q_move rfl) rfl fun a hA => ?_
    refine sl hA (lo_appm hH Tryd.underlying22 Tryd.underlying9 (.inr rfl) ti5 rfl rfl rfl hO_t35 (src_stringB st) (one_B8 _) (by first | omega | (simp [beB_length, hsb]; omega)) (by first | omega | (simp [beB_length, hsb]; omega))) rfl ?_
    clear hH; rintro v_t40 w ⟨N_t40, hO_t40, hH⟩ a hA
    refine sl hA (lo_bs (f := B8) (e := 5) ([0#8]) hH rfl rfl (fun w => by kernel_rfl)) rfl ?_
    clear hH; rintro v_t41 w ⟨N_t41, hO_t41, hH⟩ a hA
    replace hH := hH.pick [1, 0, 2, 3] (Hs' := [_, _, _, _]) rfl
    refine sl hA (lo_appm hH Tryd.underlying22 Tryd.underlying22 (.inl rfl) ti5 rfl rfl rfl hO_t40 (Rd.src (Own.rd0 hO_t41 hH 1 rfl)) (one_B8 _) (by first | omega | (simp [beB_length, hsb]; omega)) (by first | omega | (simp [beB_length, hsb]; omega))) rfl ?_
    clear hH; rintro v_t42 w ⟨N_t42, hO_t42, hH⟩ a hA
    refine sq hA (q_move rfl) rfl fun a hA => ?_
    refine sl hA (lo_appm hH Tryd.underlying22 Tryd.underlying22 (.inl rfl) ti5 rfl rfl rfl hO_t42 (Rd.src (Own.rd0 hO_t24 hH 3 rfl)) (one_B8 _) (by first | omega | (simp [beB_length, hsb]; omega)) (by first | omega | (simp [beB_length, hsb]; omega))) rfl ?_
    clear hH; rintro v_t44 w ⟨N_t44, hO_t44, hH⟩ a hA
    replace hO_t44 : Ow B8 5 v_t44 (dtx (sBytes st) n j) N_t44 := hO_t44
    refine sq hA (q_assign rfl) rfl fun a hA => ?_
    refine wpList_nil ?_
    refine hK13 _ _ ?_
    clear hK13
    refine wp_seq_k fun K14 hK14 => ?_
    refine wp_region_lit ?_
    refine sq hA (q_move rfl) rfl fun a hA => ?_
    refine sq hA (q_move rfl) rfl fun a hA => ?_
    refine sl hA (lo_call fn30 rfl (mac_any (hg.mono0 hH) _ _ k (dtx (sBytes st) n j) (hH.rd hu) (Own.rd0 hO_t44 hH 0 rfl) (by omega) (by rw [dtx_length]; omega))) rfl ?_
    rintro _ w ⟨rfl, hC⟩ a hA
    replace hH := HS.call0 hH hC
    clear hC
    refine sl hA (lo_allocA hH ti25) rfl ?_
    clear hH; rintro _ w ⟨b_t14, rfl, hH⟩ a hA
    refine s0 hA (lo_storeAm hH ti25 rfl rfl (by first | rfl | (simp; done)) (by first | rfl | (simp; done)) (one_B8 _)) ?_
    clear hH; rintro _ w hH
    refine wpList_nil ?_
    refine hK14 _ _ ?_
    clear hK14
    refine wp_region_lit ?_
    refine sq hA (q_move rfl) rfl fun a hA => ?_
    refine sq hA (q_sliceAll Tryd.underlying25 ti5 rfl) rfl fun a hA => ?_
    replace hH := hH.pick [3, 0, 1, 2, 4] (Hs' := [_, _, _, _, _]) rfl
    refine sl hA (lo_appm hH Tryd.underlying22 Tryd.underlying22 (.inl rfl) ti5 rfl rfl rfl hO_o (Rd.src (HS.byB hH 1 rfl (macV_length _ _))) (one_B8 _) (by rw [dv_length]; simp; omega) (by rw [dv_length]; simp; omega)) rfl ?_
    clear hH; rintro v_t50 w ⟨N_t50, hO_t50, hH⟩ a hA
    refine sq hA (q_assign rfl) rfl fun a hA => ?_
    refine wpList_nil ?_
    refine block_normal ?_
    refine hK11 _ _ ?_
    clear hK11
    refine wp_region_lit ?_
    refine sq hA (q_move rfl) rfl fun a hA => ?_
    refine sq hA (q_add64 (q := 1#64) rfl rfl) rfl fun a hA => ?_
    rw [ofNat_succ64] at hA
    refine sq hA (q_assign rfl) rfl fun a hA => ?_
    refine wpList_nil ?_
    replace hH := hH.pick [0, 4, 1, 2, 3] (Hs' := [_, _, _, _, _]) rfl
    replace hH := hH.pick [0, 1] (Hs' := [_, _]) rfl
    exact ⟨_, by omega, j + 1, v_t50, N_t50, hA.sub ⟨rfl, rfl, rfl, rfl, rfl, rfl, rfl, rfl, trivial⟩, hH, by omega, by exact hO_t50, rfl⟩
  · skip
    obtain rfl : j = (n + 31) / 32 := by omega
    refine wp_exit ?_
    refine then_exit ?_
    refine then_exit ?_
    refine exit_here ?_
    refine hK7 _ _ ?_
    clear hK7
    replace hA := hA.sub (E' := [(8, _), (7, _), (6, _), (2, _)]) ⟨rfl, rfl, rfl, rfl, trivial⟩
    refine wp_seq_k fun K15 hK15 => ?_
    refine wp_region_lit ?_
    refine sq hA (q_move rfl) rfl fun a hA => ?_
    refine sq hA (q_move rfl) rfl fun a hA => ?_
    refine sq hA (q_move rfl) rfl fun a hA => ?_
    obtain ⟨v_t54, hv54, hc54, hO_t54⟩ := Own.cut3 hO_o n (by rw [dv_length]; omega)
    refine sq hA (q_slice3 Tryd.underlying22 ti5 rfl hv54 hc54 (Own.shp hO_o) rfl rfl rfl rfl (by rw [dv_length]; omega)) rfl fun a hA => ?_
    refine sq hA (q_assign rfl) rfl fun a hA => ?_
    refine sq hA (q_assign rfl) rfl fun a hA => ?_
    refine wpList_nil ?_
    refine hK15 _ _ ?_
    clear hK15
    replace hA := hA.sub (E' := [(7, _), (6, _)]) ⟨rfl, rfl, trivial⟩
    refine wp_ret ?_
    refine post_ret hA (res_2 rfl hA rfl rfl) ?_
    replace hH := hH.pick [0] (Hs' := [_]) rfl
    exact ⟨_, rfl, v_t54, N_o, rfl, by unfold Ow; rw [drv_length]; simpa [drv, List.map_take] using hO_t54, hH⟩

theorem refderive_any {w0 : World} {lv : Nat} (hg : Gl (lv + 2) w0) (u : Value) (k : Bs) (st : ByteArray) (n : Nat) (hu : By [] w0 u k) (hk : k.length ≤ 1000) (hst : st.size ≤ 1000) (hn : n ≤ 8160) :
    Calls Tryd.prog 39 #[u, (.string st), I n] w0 (Ret fun r w' => ∃ v N, r = .tuple #[v, I 0] ∧ Ow B8 5 v (drv k (sBytes st) n) N ∧ HS [] w0 w' [N]) := by
  have hH := HS.start w0
  refine start (n := 54) (E := [(0, _), (1, _), (2, _)]) Tryd.func39 rfl rfl rfl (args_look rfl) ?_
  intro a hA
  have hsb : (sBytes st).length = st.size := sBytes_length st
  have hbn := beB_length (BitVec.ofNat 64 n) 4
  refine wp_seq_k fun K1 hK1 => ?_
  refine wp_region_lit ?_
  refine sq hA (q_assign rfl) rfl fun a hA => ?_
  refine sq hA (q_assign rfl) rfl fun a hA => ?_
  refine wpList_nil ?_
  refine hK1 _ _ ?_
  clear hK1
  refine wp_seq_k fun K2 hK2 => ?_
  refine wp_seq_k fun K3 hK3 => ?_
  refine wp_region_lit ?_
  refine sq hA (q_move rfl) rfl fun a hA => ?_
  refine sq hA (q_lssI (n := 0) rfl rfl) rfl fun a hA => ?_
  refine wpList_nil ?_
  refine hK3 _ _ ?_
  clear hK3
  replace hA := hA.sub (E' := [(15, _), (7, _), (6, _), (0, _), (1, _), (2, _)]) ⟨rfl, rfl, rfl, rfl, rfl, rfl, trivial⟩
  refine cond_d hA rfl (fun hnn => absurd hnn (by omega)) (fun _ => ?_)
  refine wp_skip ?_
  refine hK2 _ _ ?_
  clear hK2
  replace hA := hA.sub (E' := [(7, _), (6, _), (0, _), (1, _), (2, _)]) ⟨rfl, rfl, rfl, rfl, rfl, trivial⟩
  refine wp_seq_k fun K4 hK4 => ?_
  refine wp_seq_k fun K5 hK5 => ?_
  refine wp_region_lit ?_
  refine sq hA (q_move rfl) rfl fun a hA => ?_
  refine sq hA (q_gtrI (n := 8160) rfl rfl) rfl fun a hA => ?_
  refine wpList_nil ?_
  refine hK5 _ _ ?_
  clear hK5
  replace hA := hA.sub (E' := [(17, _), (7, _), (6, _), (0, _), (1, _), (2, _)]) ⟨rfl, rfl, rfl, rfl, rfl, rfl, trivial⟩
  refine cond_d hA rfl (fun hnn => absurd hnn (by omega)) (fun _ => ?_)
  refine wp_skip ?_
  refine hK4 _ _ ?_
  clear hK4
  replace hA := hA.sub (E' := [(7, _), (6, _), (0, _), (1, _), (2, _)]) ⟨rfl, rfl, rfl, rfl, rfl, trivial⟩
  refine wp_seq_k fun K6 hK6 => ?_
  refine wp_region_lit ?_
  refine sq hA (q_assign rfl) rfl fun a hA => ?_
  refine wpList_nil ?_
  refine hK6 _ _ ?_
  clear hK6
  refine wp_seq_k fun K7 hK7 => ?_
  refine wp_seq_k fun K8 hK8 => ?_
  refine wp_region_lit ?_
  refine sq hA (q_assign rfl) rfl fun a hA => ?_
  refine wpList_nil ?_
  refine hK8 _ _ ?_
  clear hK8
  refine wp_block ?_
  replace hH := hH.nilFront
  refine wp_loop_ghost (fun gm a w => ∃ j : Nat, ∃ v_o : Value, ∃ N_o : Hl, At 54 [(9, I ((j + 1 : Nat) : Int)), (8, v_o), (7, I 0), (6, (.slice none 0 0)), (0, u), (1, (.string st)), (2, I n)] a ∧ HS [] w0 w ([N_o]) ∧ (32 * j < n + 32) ∧ (Ow B8 5 v_o (dv k (sBytes st) n j) N_o) ∧ gm = n + 32 - 32 * j) (n + 32 - 32 * (0)) ⟨0, (.slice none 0 0), [], hA.sub ⟨rfl, rfl, rfl, rfl, rfl, rfl, rfl, trivial⟩, hH, by omega, by exact Ow.nil B8 _, rfl⟩ ?_
  clear hA hH
  rintro gm a w ⟨j, v_o, N_o, hA, hH, hj, hO_o, rfl⟩
  refine wp_seq_k fun K9 hK9 => ?_
  refine wp_seq_k fun K10 hK10 => ?_
  refine wp_region_lit ?_
  refine sq hA (q_move rfl) rfl fun a hA => ?_
  refine sq hA (q_len Tryd.underlying22 rfl (Own.shp hO_o)) rfl fun a hA => ?_
  rw [show (((dv k (sBytes st) n j).length : Nat) : Int) = ((32 * j : Nat) : Int) by rw [dv_length]] at hA
  refine sq hA (q_move rfl) rfl fun a hA => ?_
  refine sq hA (q_lssI rfl rfl) rfl fun a hA => ?_
  refine wpList_nil ?_
  refine hK10 _ _ ?_
  clear hK10
  refine cond_d hA rfl (fun hc21 => ?_) (fun hc21 => ?_)
  · skip
    refine wp_skip ?_
    refine hK9 _ _ ?_
    clear hK9
    refine wp_seq_k fun K11 hK11 => ?_
    refine wp_block ?_
    refine wp_seq_k fun K12 hK12 => ?_
    refine wp_region_lit ?_
    refine sq hA (q_move rfl) rfl fun a hA => ?_
    refine sq hA (q_cvI64 Tryd.underlying3 Tryd.underlying69 rfl) rfl fun a hA => ?_
    rw [BitVec.ofInt_natCast] at hA
    refine sl hA (lo_call fn45 rfl (refbytes_any _ 4 (by decide))) rfl ?_
    rintro _ w ⟨v_t27, N_t27, rfl, hO_t27, hC⟩ a hA
    replace hH := HS.call0 hH hC
    clear hC
    refine sq hA (q_move rfl) rfl fun a hA => ?_
    refine sq hA (q_extract rfl rfl) rfl fun a hA => ?_
    refine sq hA (q_extract rfl rfl) rfl fun a hA => ?_
    refine sq hA (q_assign rfl) rfl fun a hA => ?_
    refine sq hA (q_assign rfl) rfl fun a hA => ?_
    refine wpList_nil ?_
    refine hK12 _ _ ?_
    clear hK12
    replace hA := hA.sub (E' := [(10, _), (29, _), (28, _), (24, _), (27, _), (26, _), (25, _), (21, _), (20, _), (19, _), (18, _), (9, _), (8, _), (7, _), (6, _), (0, _), (1, _), (2, _)]) ⟨rfl, rfl, rfl, rfl, rfl, rfl, rfl, rfl, rfl, rfl, rfl, rfl, rfl, rfl, rfl, rfl, rfl, rfl, trivial⟩
    refine wp_seq_k fun K13 hK13 => ?_
    refine wp_region_lit ?_
    refine sq hA (q_move rfl) rfl fun a hA => ?_
    refine sq hA (q_move rfl) rfl fun a hA => ?_
    refine sl hA (lo_appm hH Tryd.underlying22 Tryd.underlying9 (.inr rfl) ti5 rfl rfl rfl hO_t27 (src_stringB st) (one_B8 _) (by first | omega | (simp [beB_length, hsb]; omega)) (by first | omega | (simp [beB_length, hsb]; omega))) rfl ?_
    clear hH; rintro v_t32 w ⟨N_t32, hO_t32, hH⟩ a hA
    refine sq hA (q_assign rfl) rfl fun a hA => ?_
    refine wpList_nil ?_
    refine hK13 _ _ ?_
    clear hK13
    refine wp_seq_k fun K14 hK14 => ?_
    refine wp_region_lit ?_
    refine sq hA (q_move rfl) rfl fun a hA => ?_
    refine sl hA (lo_bs (f := B8) (e := 5) ([0#8]) hH rfl rfl (fun w => by kernel_rfl)) rfl ?_
    clear hH; rintro v_t34 w ⟨N_t34, hO_t34, hH⟩ a hA
    replace hH := hH.pick [1, 0, 2] (Hs' := [_, _, _]) rfl
    refine sl hA (lo_appm hH Tryd.underlying22 Tryd.underlying22 (.inl rfl) ti5 rfl rfl rfl hO_t32 (Rd.src (Own.rd0 hO_t34 hH 1 rfl)) (one_B8 _) (by first | omega | (simp [beB_length, hsb]; omega)) (by first | omega | (simp [beB_length, hsb]; omega))) rfl ?_
    clear hH; rintro v_t35 w ⟨N_t35, hO_t35, hH⟩ a hA
    refine sq hA (q_assign rfl) rfl fun a hA => ?_
    refine wpList_nil ?_
    refine hK14 _ _ ?_
    clear hK14
    refine wp_seq_k fun K15 hK15 => ?_
    refine wp_region_lit ?_
    refine sq hA (q_move rfl) rfl fun a hA => ?_
    refine sq hA (q_cvI64 Tryd.underlying3 Tryd.underlying69 rfl) rfl fun a hA => ?_
    rw [BitVec.ofInt_natCast] at hA
    refine sl hA (lo_call fn45 rfl (refbytes_any _ 4 (by decide))) rfl ?_
    rintro _ w ⟨v_t39, N_t39, rfl, hO_t39, hC⟩ a hA
    replace hH := HS.call0 hH hC
    clear hC
    refine sq hA (q_move rfl) rfl fun a hA => ?_
    refine sq hA (q_extract rfl rfl) rfl fun a hA => ?_
    refine sq hA (q_extract rfl rfl) rfl fun a hA => ?_
    refine sq hA (q_assign rfl) rfl fun a hA => ?_
    refine sq hA (q_assign rfl) rfl fun a hA => ?_
    refine wpList_nil ?_
    refine hK15 _ _ ?_
    clear hK15
    replace hA := hA.sub (E' := [(12, _), (41, _), (40, _), (36, _), (39, _), (38, _), (37, _), (10, _), (35, _), (34, _), (33, _), (32, _), (31, _), (30, _), (29, _), (28, _), (24, _), (27, _), (26, _), (25, _), (21, _), (20, _), (19, _), (18, _), (9, _), (8, _), (7, _), (6, _), (0, _), (1, _), (2, _)]) ⟨rfl, rfl, rfl, rfl, rfl, rfl, rfl, rfl, rfl, rfl, rfl, rfl, rfl, rfl, rfl, rfl, rfl, rfl, rfl, rfl, rfl, rfl, rfl, rfl, rfl, rfl, rfl, rfl, rfl, rfl, rfl, trivial⟩
    refine wp_seq_k fun K16 hK16 => ?_
    refine wp_region_lit ?_
    refine sq hA (q_move rfl) rfl fun a hA => ?_
    refine sq hA (q_move rfl) rfl fun a hA => ?_
    replace hH := hH.pick [1, 0, 2, 3] (Hs' := [_, _, _, _]) rfl
    refine sl hA (lo_appm hH Tryd.underlying22 Tryd.underlying22 (.inl rfl) ti5 rfl rfl rfl hO_t35 (Rd.src (Own.rd0 hO_t39 hH 1 rfl)) (one_B8 _) (by first | omega | (simp [beB_length, hsb]; omega)) (by first | omega | (simp [beB_length, hsb]; omega))) rfl ?_
    clear hH; rintro v_t44 w ⟨N_t44, hO_t44, hH⟩ a hA
    replace hO_t44 : Ow B8 5 v_t44 (dtx (sBytes st) n j) N_t44 := hO_t44
    refine sq hA (q_assign rfl) rfl fun a hA => ?_
    refine wpList_nil ?_
    refine hK16 _ _ ?_
    clear hK16
    refine wp_region_lit ?_
    refine sq hA (q_move rfl) rfl fun a hA => ?_
    refine sq hA (q_move rfl) rfl fun a hA => ?_
    refine sq hA (q_move rfl) rfl fun a hA => ?_
    refine sl hA (lo_call fn32 rfl (refmac_any (hg.mono0 hH) _ _ k (dtx (sBytes st) n j) (hH.rd hu) (Own.rd0 hO_t44 hH 0 rfl) (by omega) (by rw [dtx_length]; omega))) rfl ?_
    rintro _ w ⟨rfl, hC⟩ a hA
    replace hH := HS.call0 hH hC
    clear hC
    refine sl hA (lo_call fn33 rfl (refdigest_any (macV k (dtx (sBytes st) n j)) (macV_length _ _))) rfl ?_
    rintro _ w ⟨v_t49, N_t49, rfl, hO_t49, hC⟩ a hA
    replace hH := HS.call0 hH hC
    clear hC
    replace hH := hH.pick [4, 0, 1, 2, 3] (Hs' := [_, _, _, _, _]) rfl
    refine sl hA (lo_appm hH Tryd.underlying22 Tryd.underlying22 (.inl rfl) ti5 rfl rfl rfl hO_o (Rd.src (Own.rd0 hO_t49 hH 1 rfl)) (one_B8 _) (by rw [dv_length]; simp; omega) (by rw [dv_length]; simp; omega)) rfl ?_
    clear hH; rintro v_t50 w ⟨N_t50, hO_t50, hH⟩ a hA
    refine sq hA (q_assign rfl) rfl fun a hA => ?_
    refine wpList_nil ?_
    refine block_normal ?_
    refine hK11 _ _ ?_
    clear hK11
    refine wp_region_lit ?_
    refine sq hA (q_move rfl) rfl fun a hA => ?_
    refine sq hA (q_addI (n := 1) rfl rfl (by omega)) rfl fun a hA => ?_
    refine sq hA (q_assign rfl) rfl fun a hA => ?_
    refine wpList_nil ?_
    replace hH := hH.pick [0] (Hs' := [_]) rfl
    exact ⟨_, by omega, j + 1, v_t50, N_t50, hA.sub ⟨rfl, rfl, rfl, rfl, rfl, rfl, rfl, trivial⟩, hH, by omega, by exact hO_t50, rfl⟩
  · skip
    obtain rfl : j = (n + 31) / 32 := by omega
    refine wp_exit ?_
    refine then_exit ?_
    refine then_exit ?_
    refine exit_here ?_
    refine hK7 _ _ ?_
    clear hK7
    replace hA := hA.sub (E' := [(8, _), (7, _), (6, _), (2, _)]) ⟨rfl, rfl, rfl, rfl, trivial⟩
    refine wp_seq_k fun K17 hK17 => ?_
    refine wp_region_lit ?_
    refine sq hA (q_move rfl) rfl fun a hA => ?_
    refine sq hA (q_move rfl) rfl fun a hA => ?_
    obtain ⟨v_t53, hv_t53, hO_t53⟩ := Ow.cut hO_o (0) (n) (by first | omega | (rw [dv_length]; omega)) (by first | omega | (rw [dv_length]; omega))
    refine sq hA (q_slice Tryd.underlying22 ti5 rfl (0) (n) hv_t53 (Own.shp hO_o) rfl rfl (rfl) (rfl) (by first | omega | (rw [dv_length]; omega)) (by first | omega | (rw [dv_length]; omega))) rfl fun a hA => ?_
    refine sq hA (q_assign rfl) rfl fun a hA => ?_
    refine sq hA (q_assign rfl) rfl fun a hA => ?_
    refine wpList_nil ?_
    refine hK17 _ _ ?_
    clear hK17
    replace hA := hA.sub (E' := [(7, _), (6, _)]) ⟨rfl, rfl, trivial⟩
    refine wp_ret ?_
    refine post_ret hA (res_2 rfl hA rfl rfl) ?_
    exact ⟨_, rfl, v_t53, N_o, rfl, by simpa [drv] using hO_t53, hH⟩

end Go.Proofs.YtegjkoohpkchbaaDoor
