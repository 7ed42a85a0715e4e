/- Layer 4 (wire), the program's and the document's: numbers, texts, readers. -/
import Derived.Test.YthhdilafnfcpbaaDoorBa
import Derived.Test.YthhdilafnfcpbaaDoorMzc
namespace Go.Proofs.YthhdilafnfcpbaaDoor
open Go
set_option linter.unusedVariables false
set_option linter.unusedSimpArgs false
set_option maxRecDepth 100000

theorem wnum_any {w0 : World} (n : BitVec 64) :
    Calls Tryd.prog 67 #[U64 n] w0 (Ret fun r w' => ∃ v' N, v' = r ∧ Ow B8 5 v' (wnum n.toNat) N ∧ HS [] w0 w' [N]) := by
 have hH := HS.start w0
 refine start (n := 27) (E := [(0, _)]) Tryd.func67 rfl rfl rfl (args_look rfl) ?_
 intro a hA
 refine wp_seq_k fun K1 hK1 => ?_
 refine wp_region_lit ?_
 refine asg hA fun a hA => ?_
 refine wpList_nil ?_
 refine hK1 _ _ ?_
 clear hK1
 refine wp_scope_straight ?_
 refine wp_seq_k fun K2 hK2 => ?_
 refine wp_region_lit ?_
 refine asg hA fun a hA => ?_
 refine wpList_nil ?_
 refine hK2 _ _ ?_
 clear hK2
 refine wp_seq_k fun K3 hK3 => ?_
 refine wp_label ?_
 refine hK3 _ _ ?_
 clear hK3
 refine wp_seq_k fun K4 hK4 => ?_
 refine wp_block ?_
 refine wp_loop_ghost (fun gm a w => ∃ k : Nat, At 27 [(3, I k), (2, (.slice none 0 0)), (0, U64 n)] a ∧ HS [] w0 w ([]) ∧ (k ≤ 8) ∧ (n.toNat < 256 ^ k) ∧ gm = 2 * k) (2 * (8)) ⟨8, hA.sub ⟨rfl, rfl, rfl, trivial⟩, hH, by omega, by exact n.isLt, rfl⟩ ?_
 clear hA hH
 rintro gm a w ⟨k, hA, hH, hk, hn, rfl⟩
 refine wp_seq_k fun K5 hK5 => ?_
 refine wp_seq_k fun K6 hK6 => ?_
 refine wp_region_lit ?_
 refine mv hA fun a hA => ?_
 refine sq hA (q_gtrI (n := 0) rfl rfl) rfl fun a hA => ?_
 refine wpList_nil ?_
 refine hK6 _ _ ?_
 clear hK6
 refine cond_d hA rfl (fun hc7 => ?_) (fun hc7 => ?_)
 ·skip
  refine wp_skip ?_
  refine hK5 _ _ ?_
  clear hK5
  refine wp_block ?_
  refine wp_seq_k fun K7 hK7 => ?_
  refine wp_seq_k fun K8 hK8 => ?_
  refine wp_region_lit ?_
  refine mv hA fun a hA => ?_
  refine mv hA fun a hA => ?_
  refine sq hA (q_subI (n := 1) rfl rfl (by omega)) rfl fun a hA => ?_
  rw [show ((k : Int) - 1) = ((k - 1 : Nat) : Int) by omega] at hA
  refine sq hA (q_mulI (m := 8) rfl rfl (by omega)) rfl fun a hA => ?_
  rw [show ((8 : Int) * ((k - 1 : Nat) : Int)) = ((8 * (k - 1) : Nat) : Int) by omega] at hA
  refine sq hA (q_shr64 (n := 8 * (k - 1)) rfl rfl) rfl fun a hA => ?_
  refine sq hA (q_neq64 (q := 0#64) rfl rfl) rfl fun a hA => ?_
  refine wpList_nil ?_
  refine hK8 _ _ ?_
  clear hK8
  refine cond_d hA rfl (fun hc13 => ?_) (fun hc13 => ?_)
  ·skip
   have hw : k = wd n.toNat := wd_unique hn (.inr (shr_ge (ne0_pos hc13)))
   refine wp_exit ?_
   refine then_exit ?_
   refine exit_out rfl ?_
   refine then_exit ?_
   refine exit_here ?_
   refine hK4 _ _ ?_
   clear hK4
   replace hA := hA.s3 3 2 0
   refine wp_seq_k fun K9 hK9 => ?_
   refine wp_region_lit ?_
   refine mv hA fun a hA => ?_
   refine mv hA fun a hA => ?_
   refine sl hA (lo_call fn82 rfl (bytes_any _ _ (by first | omega | (simp; done) | (simp; omega)))) rfl ?_
   rintro _ w ⟨v_t19, N_t19, rfl, hO_t19, hC⟩ a hA
   replace hH := HS.call0 hH hC
   clear hC
   refine mv hA fun a hA => ?_
   refine sq hA (q_extract rfl rfl) rfl fun a hA => ?_
   refine sq hA (q_extract rfl rfl) rfl fun a hA => ?_
   refine asg hA fun a hA => ?_
   refine asg hA fun a hA => ?_
   refine wpList_nil ?_
   refine hK9 _ _ ?_
   clear hK9
   replace hA := hA.s3 4 3 2
   refine wp_seq_k fun K10 hK10 => ?_
   refine wp_region_lit ?_
   refine mv hA fun a hA => ?_
   refine sq hA (q_cvI8 Tryd.underlying3 Tryd.underlying5 rfl) rfl fun a hA => ?_
   refine sl hA (lo_bs (f := B8) (e := 5) ([BitVec.ofInt 8 (k : Int)]) hH rfl rfl (fun w => by kernel_rfl)) rfl ?_
   clear hH; rintro v_t24 w ⟨N_t24, hO_t24, hH⟩ a hA
   refine mv hA fun a hA => ?_
   refine sl hA (lo_appm hH Tryd.underlying32 Tryd.underlying32 (.inl rfl) ti5 rfl rfl rfl hO_t24 (Rd.src (Own.rd0 hO_t19 hH 1 rfl)) (one_B8 _) (by first | omega | (simp [beB_length]; omega)) (by first | omega | (simp [beB_length]; omega))) rfl ?_
   clear hH; rintro v_t26 w ⟨N_t26, hO_t26, hH⟩ a hA
   refine asg hA fun a hA => ?_
   refine wpList_nil ?_
   refine hK10 _ _ ?_
   clear hK10
   replace hA := hA.s1 2
   refine wp_ret ?_
   refine noGoto_ret ?_
   refine post_ret hA (res_1 rfl hA rfl) ?_
   replace hH := hH.pick [0] (Hs' := [_]) rfl
   exact ⟨_, rfl, v_t26, N_t26, rfl, by rw [← wnum_eq hw]; exact hO_t26, hH⟩
  ·skip
   refine wp_skip ?_
   refine hK7 _ _ ?_
   clear hK7
   refine wp_region_lit ?_
   refine mv hA fun a hA => ?_
   refine sq hA (q_subI (n := 1) rfl rfl (by omega)) rfl fun a hA => ?_
   rw [show ((k : Int) - 1) = ((k - 1 : Nat) : Int) by omega] at hA
   refine asg hA fun a hA => ?_
   refine wpList_nil ?_
   refine block_normal ?_
   exact ⟨_, by omega, k - 1, hA.sub ⟨rfl, rfl, rfl, trivial⟩, hH, by omega, by exact shr_lt (eq0_pos hc13), rfl⟩
 ·skip
  have hw : k = wd n.toNat := wd_unique hn (.inl (by omega))
  refine wp_exit ?_
  refine then_exit ?_
  refine then_exit ?_
  refine exit_here ?_
  refine hK4 _ _ ?_
  clear hK4
  replace hA := hA.s3 3 2 0
  refine wp_seq_k fun K11 hK11 => ?_
  refine wp_region_lit ?_
  refine mv hA fun a hA => ?_
  refine mv hA fun a hA => ?_
  refine sl hA (lo_call fn82 rfl (bytes_any _ _ (by first | omega | (simp; done) | (simp; omega)))) rfl ?_
  rintro _ w ⟨v_t19, N_t19, rfl, hO_t19, hC⟩ a hA
  replace hH := HS.call0 hH hC
  clear hC
  refine mv hA fun a hA => ?_
  refine sq hA (q_extract rfl rfl) rfl fun a hA => ?_
  refine sq hA (q_extract rfl rfl) rfl fun a hA => ?_
  refine asg hA fun a hA => ?_
  refine asg hA fun a hA => ?_
  refine wpList_nil ?_
  refine hK11 _ _ ?_
  clear hK11
  replace hA := hA.s3 4 3 2
  refine wp_seq_k fun K12 hK12 => ?_
  refine wp_region_lit ?_
  refine mv hA fun a hA => ?_
  refine sq hA (q_cvI8 Tryd.underlying3 Tryd.underlying5 rfl) rfl fun a hA => ?_
  refine sl hA (lo_bs (f := B8) (e := 5) ([BitVec.ofInt 8 (k : Int)]) hH rfl rfl (fun w => by kernel_rfl)) rfl ?_
  clear hH; rintro v_t24 w ⟨N_t24, hO_t24, hH⟩ a hA
  refine mv hA fun a hA => ?_
  refine sl hA (lo_appm hH Tryd.underlying32 Tryd.underlying32 (.inl rfl) ti5 rfl rfl rfl hO_t24 (Rd.src (Own.rd0 hO_t19 hH 1 rfl)) (one_B8 _) (by first | omega | (simp [beB_length]; omega)) (by first | omega | (simp [beB_length]; omega))) rfl ?_
  clear hH; rintro v_t26 w ⟨N_t26, hO_t26, hH⟩ a hA
  refine asg hA fun a hA => ?_
  refine wpList_nil ?_
  refine hK12 _ _ ?_
  clear hK12
  replace hA := hA.s1 2
  refine wp_ret ?_
  refine noGoto_ret ?_
  refine post_ret hA (res_1 rfl hA rfl) ?_
  replace hH := hH.pick [0] (Hs' := [_]) rfl
  exact ⟨_, rfl, v_t26, N_t26, rfl, by rw [← wnum_eq hw]; exact hO_t26, hH⟩


theorem wtext_any {w0 : World} (v : Value) (l : Bs) (hr : By [] w0 v l) (hl : l.length ≤ 1048576) :
    Calls Tryd.prog 68 #[v] w0 (Ret fun r w' => ∃ v' N, v' = r ∧ Ow B8 5 v' (wtext l) N ∧ HS [] w0 w' [N]) := by
 have hH := HS.start w0
 refine start (n := 9) (E := [(0, _)]) Tryd.func68 rfl rfl rfl (args_look rfl) ?_
 intro a hA
 have hw8 := wd_le (n := l.length) (by omega)
 refine wp_seq_k fun K1 hK1 => ?_
 refine wp_region_lit ?_
 refine asg hA fun a hA => ?_
 refine wpList_nil ?_
 refine hK1 _ _ ?_
 clear hK1
 refine wp_seq_k fun K2 hK2 => ?_
 refine wp_region_lit ?_
 refine mv hA fun a hA => ?_
 refine sq hA (q_len Tryd.underlying32 rfl (Rd.shp hr)) rfl fun a hA => ?_
 refine sq hA (q_cvI64 Tryd.underlying3 Tryd.underlying91 rfl) rfl fun a hA => ?_
 refine sl hA (lo_call fn67 rfl (wnum_any _)) rfl ?_
 rintro _ w ⟨v_t6, N_t6, rfl, hO_t6, hC⟩ a hA
 replace hH := HS.call0 hH hC
 clear hC
 rw [toNat_ofInt64 (by omega)] at hO_t6
 refine mv hA fun a hA => ?_
 refine sl hA (lo_appm hH Tryd.underlying32 Tryd.underlying32 (.inl rfl) ti5 rfl rfl rfl hO_t6 (Rd.src (hH.rd hr)) (one_B8 _) (by first | omega | (simp; omega)) (by first | omega | (simp; omega))) rfl ?_
 clear hH; rintro v_t8 w ⟨N_t8, hO_t8, hH⟩ a hA
 refine asg hA fun a hA => ?_
 refine wpList_nil ?_
 refine hK2 _ _ ?_
 clear hK2
 replace hA := hA.s1 2
 refine wp_ret ?_
 refine post_ret hA (res_1 rfl hA rfl) ?_
 exact ⟨_, rfl, v_t8, N_t8, rfl, hO_t8, hH⟩


theorem read_any {w0 : World} (v : Value) (l : Bs) (hr : By [] w0 v l) (hl : l.length ≤ 1048576) :
    Calls Tryd.prog 52 #[v] w0 (Ret fun r w' => ∃ b v' N, r = .pointer (some ⟨b, 0, none⟩) ∧ Ow B8 5 v' l N ∧ HS [] w0 w' [[(b, Obj.cells [v', I 0, I 0].toArray 108 (0, 0))], N]) := by
 have hH := HS.start w0
 refine start (n := 8) (E := [(0, _)]) Tryd.func52 rfl rfl rfl (args_look rfl) ?_
 intro a hA
 refine wp_seq_k fun K1 hK1 => ?_
 refine wp_region_lit ?_
 refine asg hA fun a hA => ?_
 refine wpList_nil ?_
 refine hK1 _ _ ?_
 clear hK1
 refine wp_seq_k fun K2 hK2 => ?_
 refine wp_region_lit ?_
 refine sl hA (lo_bs (f := B8) (e := 5) ([]) hH rfl rfl (fun w => by kernel_rfl)) rfl ?_
 clear hH; rintro v_t3 w ⟨N_t3, hO_t3, hH⟩ a hA
 refine mv hA fun a hA => ?_
 refine sl hA (lo_appm hH Tryd.underlying32 Tryd.underlying32 (.inl rfl) ti5 rfl rfl rfl hO_t3 (Rd.src (hH.rd hr)) (one_B8 _) (by first | omega | (simp; done) | (simp; omega)) (by first | omega | (simp; done) | (simp; omega))) rfl ?_
 clear hH; rintro v_t5 w ⟨N_t5, hO_t5, hH⟩ a hA
 refine sq hA (q_buildC (css := [[v_t5]]) (z := [(.slice none 0 0), (I 0), (I 0)]) (BT.mk (pl := [(0, 1), (1, 1), (2, 1)]) (it := Tryd.t108) (by kernel_rfl) Tryd.underlying108 (by kernel_rfl) (by kernel_rfl)) rfl ⟨cells_one (Own.one hO_t5), ⟨_, rfl, by first | rfl | (simp [Value.cells]; done) | (simp [Value.cells, *]; done), by decide⟩, trivial⟩) rfl fun a hA => ?_
 refine sl hA (lo_boxA hH rfl) rfl ?_
 clear hH; rintro _ w ⟨b_t7, rfl, hH⟩ a hA
 refine asg hA fun a hA => ?_
 refine wpList_nil ?_
 refine hK2 _ _ ?_
 clear hK2
 replace hA := hA.s1 2
 refine wp_ret ?_
 refine post_ret hA (res_1 rfl hA rfl) ?_
 exact ⟨_, rfl, b_t7, v_t5, N_t5, rfl, hO_t5, hH⟩

theorem off_any {w0 : World} (b_r : Nat) (v : Value) (l : Bs) (k e : Nat) (hB : By [b_r] w0 v l) (hk : k ≤ l.length) (hl : l.length ≤ 1048576) (hH : HS [b_r] w0 w0 [[(b_r, Obj.cells [v, I (k), I (e)].toArray 108 (0, 0))]]) :
    Calls Tryd.prog 71 #[(.pointer (some ⟨b_r, 0, none⟩))] w0 (Ret fun r w' => r = .bool (decide (e ≠ 0)) ∧ HS [b_r] w0 w' [[(b_r, Obj.cells [v, I (k), I (e)].toArray 108 (0, 0))]]) := by
 refine start (n := 12) (E := [(0, _)]) Tryd.func71 rfl rfl rfl (args_look rfl) ?_
 intro a hA
 refine wp_seq_k fun K1 hK1 => ?_
 refine wp_region_lit ?_
 refine asg hA fun a hA => ?_
 refine wpList_nil ?_
 refine hK1 _ _ ?_
 clear hK1
 refine wp_seq_k fun K2 hK2 => ?_
 refine wp_region_lit ?_
 refine mv hA fun a hA => ?_
 refine sq hA (q_ptrNil Tryd.underlying89 rfl rfl) rfl fun a hA => ?_
 refine mv hA fun a hA => ?_
 refine gq hA rfl rfl (q_move rfl) rfl fun a hA => ?_
 refine gq hA rfl rfl (q_nilCheck rfl) rfl fun a hA => ?_
 refine gq hA rfl rfl (q_fld 2 Tryd.underlying108 rfl rfl ti28 rfl) rfl fun a hA => ?_
 refine gq hA rfl rfl (q_loadB hH 0 rfl (List.mem_singleton.2 rfl) Tryd.underlying28 rfl rfl rfl) rfl fun a hA => ?_
 refine gq hA rfl rfl (q_neqI (n := 0) rfl rfl) rfl fun a hA => ?_
 refine sq hA (q_pick_f rfl rfl) rfl fun a hA => ?_
 refine asg hA fun a hA => ?_
 refine wpList_nil ?_
 refine hK2 _ _ ?_
 clear hK2
 replace hA := hA.s1 2
 refine wp_ret ?_
 refine post_ret hA (res_1 rfl hA rfl) ?_
 exact ⟨_, rfl, by congr 1; exact decide_eq_decide.2 (by omega), hH⟩

theorem fails_any {w0 : World} (b_r : Nat) (v : Value) (l : Bs) (k e : Nat) (hB : By [b_r] w0 v l) (hk : k ≤ l.length) (hl : l.length ≤ 1048576) (c m : Nat) (hH : HS [b_r] w0 w0 [[(b_r, Obj.cells [v, I (k), I (e)].toArray 108 (0, 0))]]) :
    Calls Tryd.prog 72 #[(.pointer (some ⟨b_r, 0, none⟩)), I c, I m] w0 (Ret fun r w' => r = .tuple #[] ∧ HS [b_r] w0 w' [[(b_r, Obj.cells [v, I (m), I (c)].toArray 108 (0, 0))]]) := by
 refine start (n := 14) (E := [(0, _), (1, _), (2, _)]) Tryd.func72 rfl rfl rfl (args_look rfl) ?_
 intro a hA
 refine wp_region_lit ?_
 refine mv hA fun a hA => ?_
 refine mv hA fun a hA => ?_
 refine mv hA fun a hA => ?_
 refine mv hA fun a hA => ?_
 refine sq hA (q_nilCheck rfl) rfl fun a hA => ?_
 refine sq hA (q_fld 2 Tryd.underlying108 rfl rfl ti28 rfl) rfl fun a hA => ?_
 refine s0 hA (lo_store1 hH ti28 rfl rfl (by first | omega | (simp; done) | (simp; omega) | (rw [List.length_map]; assumption) | assumption | rfl | (simp [*]; done) | (simp [*]; omega)) rfl) ?_
 clear hH; rintro _ w hH
 refine sq hA (q_nilCheck rfl) rfl fun a hA => ?_
 refine sq hA (q_fld 1 Tryd.underlying108 rfl rfl ti3 rfl) rfl fun a hA => ?_
 refine s0 hA (lo_store1 hH ti3 rfl rfl (by first | omega | (simp; done) | (simp; omega) | (rw [List.length_map]; assumption) | assumption | rfl | (simp [*]; done) | (simp [*]; omega)) rfl) ?_
 clear hH; rintro _ w hH
 refine wpList_nil ?_
 refine post_end hA (res_none rfl) ?_
 exact ⟨_, rfl, rfl, hH⟩

end Go.Proofs.YthhdilafnfcpbaaDoor
