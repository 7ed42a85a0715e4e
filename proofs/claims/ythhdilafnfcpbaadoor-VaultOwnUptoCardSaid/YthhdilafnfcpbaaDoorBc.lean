/- Layer 2 (sha): what fills up, a hash, a sum. -/
import Derived.Test.YthhdilafnfcpbaaDoorTa
import Derived.Test.YthhdilafnfcpbaaDoorTb
import Derived.Test.YthhdilafnfcpbaaDoorLl
import Derived.Test.YthhdilafnfcpbaaDoorMza
import Derived.Test.YthhdilafnfcpbaaDoorBa
import Derived.Test.YthhdilafnfcpbaaDoorBb
namespace Go.Proofs.YthhdilafnfcpbaaDoor
open Go
set_option linter.unusedVariables false
set_option linter.unusedSimpArgs false
set_option maxRecDepth 100000

theorem pad_any {w0 : World} (n : Nat) (hn : n ≤ 1152921504606846976) :
    Calls Tryd.prog 85 #[I n] w0 (Ret fun r w' => ∃ v N, r = .tuple #[v, I 0] ∧ Ow B8 5 v (padB n) N ∧ HS [] w0 w' [N]) := by
 have hH := HS.start w0
 refine start (n := 33) (E := [(0, _)]) Tryd.func85 rfl rfl rfl (args_look rfl) ?_
 intro a hA
 refine wp_seq_k fun K1 hK1 => ?_
 refine wp_region_lit ?_
 refine asg hA fun a hA => ?_
 refine asg hA fun a hA => ?_
 refine wpList_nil ?_
 refine hK1 _ _ ?_
 clear hK1
 refine wp_seq_k fun K2 hK2 => ?_
 refine wp_seq_k fun K3 hK3 => ?_
 refine wp_region_lit ?_
 refine mv hA fun a hA => ?_
 refine sq hA (Runs.bf (q_lssI (n := 0) rfl rfl) (by omega)) rfl fun a hA => ?_
 refine mv hA fun a hA => ?_
 refine gq hA rfl rfl (q_move rfl) rfl fun a hA => ?_
 refine gq hA rfl rfl (Runs.bf (q_gtrI (n := 1152921504606846976) rfl rfl) (by omega)) rfl fun a hA => ?_
 refine sq hA (q_pick_f rfl rfl) rfl fun a hA => ?_
 refine wpList_nil ?_
 refine hK3 _ _ ?_
 clear hK3
 replace hA := hA.s4 13 3 2 0
 refine cond_f hA rfl ?_
 refine wp_skip ?_
 refine hK2 _ _ ?_
 clear hK2
 replace hA := hA.s3 3 2 0
 refine wp_seq_k fun K4 hK4 => ?_
 refine wp_region_lit ?_
 refine mv hA fun a hA => ?_
 refine sq hA (q_remI (n := 64) rfl rfl (by omega)) rfl fun a hA => ?_
 refine sq hA (q_subI (m := 119) rfl rfl (by omega)) rfl fun a hA => ?_
 refine sq hA (q_remI (n := 64) rfl rfl (by omega)) rfl fun a hA => ?_
 rw [show ((119 - (n : Int) % 64) % 64) = (((119 - n % 64) % 64 : Nat) : Int) by omega] at hA
 refine asg hA fun a hA => ?_
 refine wpList_nil ?_
 refine hK4 _ _ ?_
 clear hK4
 replace hA := hA.s4 4 3 2 0
 refine wp_seq_k fun K5 hK5 => ?_
 refine wp_region_lit ?_
 refine mv hA fun a hA => ?_
 refine sq hA (q_addI (m := 1) rfl rfl (by omega)) rfl fun a hA => ?_
 refine sl hA (lo_make (n := 1 + ((119 - n % 64) % 64)) hH Tryd.underlying32 ti5 rfl rfl rfl (by omega) (by omega) (by omega)) rfl ?_
 clear hH; rintro v_t20 w ⟨N_t20, hO_t20, hH⟩ a hA
 replace hO_t20 : Ow B8 5 v_t20 (List.replicate (1 + ((119 - n % 64) % 64)) 0#8) N_t20 := by simpa [Ow, cells_B8, flat_replicate] using hO_t20
 refine asg hA fun a hA => ?_
 refine wpList_nil ?_
 refine hK5 _ _ ?_
 clear hK5
 replace hA := hA.s4 5 3 2 0
 refine wp_seq_k fun K6 hK6 => ?_
 refine wp_region_lit ?_
 refine mv hA fun a hA => ?_
 refine sq hA (q_idx1 (0) Tryd.underlying32 ti5 rfl rfl (rfl) (Own.shp hO_t20) (by simp; omega)) rfl fun a hA => ?_
 refine s0 hA (lo_storeO (u := 128#8) hH hO_t20 ti5 rfl rfl (by simp; omega) rfl) ?_
 clear hH; rintro _ w ⟨N_t20, hO_t20, hH⟩
 refine wpList_nil ?_
 refine hK6 _ _ ?_
 clear hK6
 replace hA := hA.s4 5 3 2 0
 refine wp_seq_k fun K7 hK7 => ?_
 refine wp_region_lit ?_
 refine mv hA fun a hA => ?_
 refine sq hA (q_cvI64 Tryd.underlying3 Tryd.underlying91 rfl) rfl fun a hA => ?_
 refine sq hA (q_shl64 (n := 3) rfl rfl) rfl fun a hA => ?_
 refine sl hA (lo_call fn82 rfl (bytes_any _ 8 (by decide))) rfl ?_
 rintro _ w ⟨v_t27, N_t27, rfl, hO_t27, hC⟩ a hA
 replace hH := HS.call0 hH hC
 clear hC
 refine mv hA fun a hA => ?_
 refine sq hA (q_extract rfl rfl) rfl fun a hA => ?_
 refine sq hA (q_extract rfl rfl) rfl fun a hA => ?_
 refine asg hA fun a hA => ?_
 refine asg hA fun a hA => ?_
 refine wpList_nil ?_
 refine hK7 _ _ ?_
 clear hK7
 replace hA := hA.s4 6 5 3 2
 refine wp_seq_k fun K8 hK8 => ?_
 refine wp_region_lit ?_
 refine mv hA fun a hA => ?_
 refine mv hA fun a hA => ?_
 replace hH := hH.pick [1, 0] (Hs' := [_, _]) rfl
 refine sl hA (lo_appm hH Tryd.underlying32 Tryd.underlying32 (.inl rfl) ti5 rfl rfl rfl hO_t20 (Rd.src (Own.rd0 hO_t27 hH 1 rfl)) (one_B8 _) (by simp [beB_length]; omega) (by simp [beB_length]; omega)) rfl ?_
 clear hH; rintro v_t32 w ⟨N_t32, hO_t32, hH⟩ a hA
 refine asg hA fun a hA => ?_
 refine asg hA fun a hA => ?_
 refine wpList_nil ?_
 refine hK8 _ _ ?_
 clear hK8
 replace hA := hA.s2 3 2
 refine wp_ret ?_
 refine post_ret hA (res_2 rfl hA rfl rfl) ?_
 replace hH := hH.pick [0] (Hs' := [_]) rfl
 exact ⟨_, rfl, v_t32, N_t32, rfl, by rw [← pad_prog]; exact hO_t32, hH⟩


theorem new_any {w0 : World} {lv : Nat} (hg : Gl lv w0) :
    Calls Tryd.prog 75 #[] w0 (Ret fun r w' => ∃ b N, r = (.pointer (some ⟨b, 0, none⟩)) ∧ HashM 127 5 b [] N ∧ HS [] w0 w' [N]) := by
 have hH := HS.start w0
 refine start (n := 4) (E := []) Tryd.func75 rfl rfl rfl (args_look rfl) ?_
 intro a hA
 refine wp_seq_k fun K1 hK1 => ?_
 refine wp_region_lit ?_
 refine asg hA fun a hA => ?_
 refine wpList_nil ?_
 refine hK1 _ _ ?_
 clear hK1
 refine wp_seq_k fun K2 hK2 => ?_
 refine wp_region_lit ?_
 refine sq hA (q_loadG (Gl.begin (hg.mono hH NG.nil)) Tryd.underlying120 rfl ti120 rfl (by first | omega | (simp; done) | (simp; omega) | (rw [List.length_map]; assumption) | assumption | rfl | (simp [*]; done) | (simp [*]; omega))) rfl fun a hA => ?_
 refine sq hA (q_build (v := .agg (hc iv (.slice none 0 0) 0).toArray) (vs := [(0, .agg (iv.map U32).toArray)]) rfl (fun w => by kernel_rfl)) rfl fun a hA => ?_
 refine sl hA (lo_boxA hH rfl) rfl ?_
 clear hH; rintro _ w ⟨b_t3, rfl, hH⟩ a hA
 refine asg hA fun a hA => ?_
 refine wpList_nil ?_
 refine hK2 _ _ ?_
 clear hK2
 replace hA := hA.s1 0
 refine wp_ret ?_
 refine post_ret hA (res_1 rfl hA rfl) ?_
 exact ⟨_, rfl, b_t3, _, rfl, HashM.new, by simpa using hH⟩

theorem build_hash {ws : List W} (h : ws.length = 8) {e k n' : Nat} {v : Value} {cs : List Value} {N : Hl} (hO : Own e k v n' cs N) (n : Nat) (w : World) :
    (Instr.build 127 [(0, Value.agg (ws.map U32).toArray), (1, v), (2, I n)].toArray).run Tryd.prog w = .ok (.agg (hc ws v n).toArray) w := by
  obtain ⟨a, c, rfl, _⟩ := hO.shape
  obtain ⟨x0, x1, x2, x3, x4, x5, x6, x7, rfl⟩ := eight h
  kernel_rfl
theorem clone_any {w0 : World} (b : Nat) (m : Bs) (N : Hl) (hO : HashM 127 5 b m N) (hN : RO [] w0 N) (hm : m.length ≤ 1099511627776) :
    Calls Tryd.prog 84 #[(.pointer (some ⟨b, 0, none⟩))] w0 (Ret fun r w' => ∃ b' N', r = (.pointer (some ⟨b', 0, none⟩)) ∧ HashM 127 5 b' m N' ∧ HS [] w0 w' [N']) := by
 have hH := HS.start w0
 refine start (n := 21) (E := [(0, _)]) Tryd.func84 rfl rfl rfl (args_look rfl) ?_
 intro a hA
 obtain ⟨v_r, N_r, rfl, hO_r⟩ := hO
 have hrr : By [] w0 v_r _ := Own.ro hO_r (fun p hp => hN p (List.mem_append_right _ hp))
 have hws := blks_length iv_length m (m.length / 64)
 refine wp_seq_k fun K1 hK1 => ?_
 refine wp_region_lit ?_
 refine asg hA fun a hA => ?_
 refine wpList_nil ?_
 refine hK1 _ _ ?_
 clear hK1
 refine wp_seq_k fun K2 hK2 => ?_
 refine wp_seq_k fun K3 hK3 => ?_
 refine wp_region_lit ?_
 refine mv hA fun a hA => ?_
 refine sq hA (q_ptrNil Tryd.underlying114 rfl rfl) rfl fun a hA => ?_
 refine wpList_nil ?_
 refine hK3 _ _ ?_
 clear hK3
 replace hA := hA.s3 4 2 0
 refine cond_f hA rfl ?_
 refine wp_skip ?_
 refine hK2 _ _ ?_
 clear hK2
 replace hA := hA.s2 2 0
 refine wp_seq_k fun K4 hK4 => ?_
 refine any_go mixed (fun _ => true) hH ?_
 clear hH; intro w hH
 have hS := hH
 refine any_l 17 ?_
 refine p0 hA 0 1 rfl (fun w => (q_move rfl)) fun a hA => ?_
 refine p0 hA 1 3 rfl (fun w => (q_nilCheck rfl)) fun a hA => ?_
 refine p0 hA 2 7 rfl (fun w => (q_fld 0 Tryd.underlying127 rfl rfl ti120 rfl)) fun a hA => ?_
 refine r0 hA 3 15 rfl hS (fun w hH => (q_loadROA (hN.later hH) (List.mem_append_left _ (List.mem_singleton.2 rfl)) Tryd.underlying120 rfl ti120 rfl _ (hc_take hws _ _) (by simp [hws]))) fun a hA => ?_
 refine p0 hA 5 47 rfl (fun w => (q_move rfl)) fun a hA => ?_
 refine p0 hA 6 111 rfl (fun w => (q_nilCheck rfl)) fun a hA => ?_
 refine p0 hA 7 239 rfl (fun w => (q_fld 8 Tryd.underlying127 rfl rfl ti32 rfl)) fun a hA => ?_
 refine r0 hA 8 495 rfl hS (fun w hH => (q_loadRO (hN.later hH) (List.mem_append_left _ (List.mem_singleton.2 rfl)) Tryd.underlying32 rfl rfl (hc_8 hws _ _))) fun a hA => ?_
 refine p0 hA 10 1519 rfl (fun w => (q_move rfl)) fun a hA => ?_
 refine p0 hA 11 3567 rfl (fun w => (q_nilCheck rfl)) fun a hA => ?_
 refine p0 hA 12 7663 rfl (fun w => (q_fld 9 Tryd.underlying127 rfl rfl ti3 rfl)) fun a hA => ?_
 refine r0 hA 13 15855 rfl hS (fun w hH => (q_loadRO (hN.later hH) (List.mem_append_left _ (List.mem_singleton.2 rfl)) Tryd.underlying3 rfl rfl (hc_9 hws _ _))) fun a hA => ?_
 refine a1 hA 4 15871 rfl (lo_bs (f := B8) (e := 5) ([]) hH rfl rfl (fun w => by kernel_rfl)) ?_
 clear hH; rintro v_t9 w ⟨N_t9, hO_t9, hH⟩
 replace hS := hH.pick [] (Hs' := []) rfl
 refine ⟨fun _ _ => hS, ?_⟩
 intro a hA
 refine a1 hA 9 16383 rfl (lo_appm hH Tryd.underlying32 Tryd.underlying32 (.inl rfl) ti5 rfl rfl rfl hO_t9 (Rd.src (hH.rd hrr)) (one_B8 _) (by simp; omega) (by simp; omega)) ?_
 clear hH; rintro v_t14 w ⟨N_t14, hO_t14, hH⟩
 replace hS := hH.pick [] (Hs' := []) rfl
 refine ⟨fun _ _ => hS, ?_⟩
 intro a hA
 refine p0 hA 14 32767 rfl (fun w => (q_build (vs := [(0, _), (1, _), (2, _)]) rfl (build_hash hws hO_t14 _))) fun a hA => ?_
 refine a1 hA 15 65535 rfl (lo_boxA hH rfl) ?_
 clear hH; rintro _ w ⟨b_t20, rfl, hH⟩
 replace hS := hH.pick [] (Hs' := []) rfl
 refine ⟨fun _ _ => hS, ?_⟩
 intro a hA
 refine p0 hA 16 131071 rfl (fun w => (q_assign rfl)) fun a hA => ?_
 refine a_end (by kernel_rfl) ?_ _
 refine hK4 _ _ ?_
 clear hK4
 replace hA := hA.s1 2
 refine wp_ret ?_
 refine post_ret hA (res_1 rfl hA rfl) ?_
 exact ⟨_, rfl, b_t20, _, rfl, ⟨v_t14, N_t14, rfl, by simpa using hO_t14⟩, HS.join hH⟩


theorem write_any {w0 : World} {lv : Nat} (hg : Gl lv w0) (M : List Nat) (hgM : NG lv M) (b_h : Nat) (m l : Bs) (v : Value) (N : Hl) (hO : HashM 127 5 b_h m N) (hr : By M w0 v l) (hm : m.length + l.length ≤ 1099511627776) (hH : HS M w0 w0 [N]) :
    Calls Tryd.prog 76 #[(.pointer (some ⟨b_h, 0, none⟩)), v] w0 (Ret fun r w' => r = .tuple #[] ∧ ∃ N', HashM 127 5 b_h (m ++ l) N' ∧ HS M w0 w' [N']) := by
 refine start (n := 54) (E := [(0, _), (1, _)]) Tryd.func76 rfl rfl rfl (args_look rfl) ?_
 intro a hA
 obtain ⟨v_r, N_r, rfl, hO_r⟩ := hO
 replace hH := HS.split hH
 have hws := blks_length iv_length m (m.length / 64)
 refine wp_seq_k fun K1 hK1 => ?_
 refine wp_seq_k fun K2 hK2 => ?_
 refine wp_region_lit ?_
 refine mv hA fun a hA => ?_
 refine sq hA (q_ptrNil Tryd.underlying114 rfl rfl) rfl fun a hA => ?_
 refine wpList_nil ?_
 refine hK2 _ _ ?_
 clear hK2
 replace hA := hA.s3 5 0 1
 refine cond_f hA rfl ?_
 refine wp_skip ?_
 refine hK1 _ _ ?_
 clear hK1
 replace hA := hA.s2 0 1
 refine wp_seq_k fun K3 hK3 => ?_
 refine wp_region_lit ?_
 refine mv hA fun a hA => ?_
 refine sq hA (q_nilCheck rfl) rfl fun a hA => ?_
 refine sq hA (q_fld 9 Tryd.underlying127 rfl rfl ti3 rfl) rfl fun a hA => ?_
 refine sq hA (q_loadB hH 0 rfl (List.mem_singleton.2 rfl) Tryd.underlying3 rfl rfl (hc_9 hws _ _)) rfl fun a hA => ?_
 refine mv hA fun a hA => ?_
 refine sq hA (q_len Tryd.underlying32 rfl (Rd.shp hr)) rfl fun a hA => ?_
 refine sq hA (q_addI rfl rfl (by omega)) rfl fun a hA => ?_
 refine sq hA (q_nilCheck rfl) rfl fun a hA => ?_
 refine sq hA (q_fld 9 Tryd.underlying127 rfl rfl ti3 rfl) rfl fun a hA => ?_
 refine s0 hA (lo_store1 hH ti3 rfl rfl (by rw [hc_len hws]; omega) rfl) ?_
 clear hH; rintro _ w hH
 rw [show ((m.length : Int) + l.length) = (((m ++ l).length : Nat) : Int) by simp, hc_set9 hws] at hH
 refine wpList_nil ?_
 refine hK3 _ _ ?_
 clear hK3
 replace hA := hA.s2 0 1
 refine wp_seq_k fun K4 hK4 => ?_
 refine wp_region_lit ?_
 refine mv hA fun a hA => ?_
 refine mv hA fun a hA => ?_
 refine sq hA (q_nilCheck rfl) rfl fun a hA => ?_
 refine sq hA (q_fld 8 Tryd.underlying127 rfl rfl ti32 rfl) rfl fun a hA => ?_
 refine sq hA (q_loadB hH 0 rfl (List.mem_singleton.2 rfl) Tryd.underlying32 rfl rfl (hc_8 hws _ _)) rfl fun a hA => ?_
 refine mv hA fun a hA => ?_
 replace hH := hH.pick [1, 0] (Hs' := [_, _]) rfl
 refine sl hA (lo_appm hH Tryd.underlying32 Tryd.underlying32 (.inl rfl) ti5 rfl rfl rfl hO_r (Rd.src (hH.rd hr)) (one_B8 _) (by simp; omega) (by simp; omega)) rfl ?_
 clear hH; rintro v_t21 w ⟨N_t21, hO_t21, hH⟩ a hA
 refine sq hA (q_nilCheck rfl) rfl fun a hA => ?_
 refine sq hA (q_fld 8 Tryd.underlying127 rfl rfl ti32 rfl) rfl fun a hA => ?_
 replace hH := hH.pick [1, 0] (Hs' := [_, _]) rfl
 refine s0 hA (lo_store1 hH ti32 rfl rfl (by rw [hc_len hws]; omega) (Own.one hO_t21)) ?_
 clear hH; rintro _ w hH
 rw [hc_set8 hws] at hH
 refine wpList_nil ?_
 refine hK4 _ _ ?_
 clear hK4
 replace hA := hA.s1 0
 refine wp_block ?_
 refine wp_loop_ghost (fun gm a w => ∃ k : Nat, ∃ v_r : Value, ∃ N_r : Hl, At 54 [(0, (.pointer (some ⟨b_h, 0, none⟩)))] a ∧ HS M w0 w ([[(b_h, Obj.cells (hc (blks iv (m ++ l) k) v_r (m ++ l).length).toArray 127 (0, 0))], N_r]) ∧ (64 * k ≤ (m ++ l).length) ∧ (Ow B8 5 v_r ((m ++ l).drop (64 * k)) N_r) ∧ gm = (m ++ l).length - 64 * k) ((m ++ l).length - 64 * (m.length / 64)) ⟨m.length / 64, v_t21, N_t21, hA.sub ⟨rfl, trivial⟩, (by rw [blks_append iv m l (by omega)]; exact hH), by (simp; omega), by (rw [List.drop_append_of_le_length (by omega)]; exact hO_t21), rfl⟩ ?_
 clear hA hH
 rintro gm a w ⟨k, v_r, N_r, hA, hH, hk, hO_r, rfl⟩
 have hws2 := blks_length iv_length (m ++ l) k
 refine wp_seq_k fun K5 hK5 => ?_
 refine wp_seq_k fun K6 hK6 => ?_
 refine wp_region_lit ?_
 refine mv hA fun a hA => ?_
 refine sq hA (q_nilCheck rfl) rfl fun a hA => ?_
 refine sq hA (q_fld 8 Tryd.underlying127 rfl rfl ti32 rfl) rfl fun a hA => ?_
 refine sq hA (q_loadB hH 0 rfl (List.mem_singleton.2 rfl) Tryd.underlying32 rfl rfl (hc_8 hws2 _ _)) rfl fun a hA => ?_
 refine sq hA (q_len Tryd.underlying32 rfl (Own.shp hO_r)) rfl fun a hA => ?_
 refine sq hA (q_geqI (n := 64) rfl rfl) rfl fun a hA => ?_
 refine wpList_nil ?_
 refine hK6 _ _ ?_
 clear hK6
 refine cond_d hA rfl (fun hc29 => ?_) (fun hc29 => ?_)
 ·skip
  have hk2 : 64 * (k + 1) ≤ (m ++ l).length := by simp at hc29 ⊢; omega
  refine wp_skip ?_
  refine hK5 _ _ ?_
  clear hK5
  refine wp_block ?_
  refine wp_seq_k fun K7 hK7 => ?_
  refine any_go mixed (fun j => !(Nat.beq j 16)) hH ?_
  clear hH; intro w hH
  have hS := hH
  refine any_l 17 ?_
  refine p0 hA 0 1 rfl (fun w => (q_move rfl)) fun a hA => ?_
  refine p0 hA 1 3 rfl (fun w => (q_move rfl)) fun a hA => ?_
  refine p0 hA 2 7 rfl (fun w => (q_nilCheck rfl)) fun a hA => ?_
  refine p0 hA 3 15 rfl (fun w => (q_fld 0 Tryd.underlying127 rfl rfl ti120 rfl)) fun a hA => ?_
  refine r0 hA 4 31 rfl hS (fun w hH => (q_loadBA hH 0 rfl (List.mem_singleton.2 rfl) Tryd.underlying120 rfl ti120 rfl _ (hc_take hws2 _ _) (by simp [hws2]))) fun a hA => ?_
  refine p0 hA 5 63 rfl (fun w => (q_move rfl)) fun a hA => ?_
  refine p0 hA 6 127 rfl (fun w => (q_nilCheck rfl)) fun a hA => ?_
  refine p0 hA 7 255 rfl (fun w => (q_fld 8 Tryd.underlying127 rfl rfl ti32 rfl)) fun a hA => ?_
  refine r0 hA 8 511 rfl hS (fun w hH => (q_loadB hH 0 rfl (List.mem_singleton.2 rfl) Tryd.underlying32 rfl rfl (hc_8 hws2 _ _))) fun a hA => ?_
  obtain ⟨v_t40, hv_t40, hO_t40⟩ := Ow.cut hO_r (0) (64) (by first | omega | (simp only [List.length_drop]; omega)) (by first | omega | (simp only [List.length_drop]; omega))
  replace hO_t40 : Ow B8 5 v_t40 (((m ++ l).drop (64 * k)).take 64) N_r := hO_t40
  refine p0 hA 9 1023 rfl (fun w => (q_slice Tryd.underlying32 ti5 rfl (0) (64) hv_t40 (Own.shp hO_r) rfl rfl (rfl) (rfl) (by first | omega | (simp only [List.length_drop]; omega)) (by first | omega | (simp only [List.length_drop]; omega)))) fun a hA => ?_
  refine a1 hA 10 2047 rfl (lo_call fn83 rfl (block_any (hg.mono hH hgM) (blks iv (m ++ l) k) v_t40 (((m ++ l).drop (64 * k)).take 64) hws2 (Own.rd0 hO_t40 hH 1 rfl) (by simp only [List.length_take, List.length_drop]; omega))) ?_
  rintro _ w ⟨rfl, hC⟩
  replace hH := HS.call0 hH hC
  clear hC
  replace hS := hH.pick [0, 1] (Hs' := [_, _]) rfl
  refine ⟨fun _ _ => hS, ?_⟩
  intro a hA
  refine p0 hA 11 4095 rfl (fun w => (q_move rfl)) fun a hA => ?_
  refine p0 hA 12 8191 rfl (fun w => (q_extract rfl rfl)) fun a hA => ?_
  refine p0 hA 13 16383 rfl (fun w => (q_extract rfl rfl)) fun a hA => ?_
  refine p0 hA 14 32767 rfl (fun w => (q_nilCheck rfl)) fun a hA => ?_
  refine p0 hA 15 65535 rfl (fun w => (q_fld 0 Tryd.underlying127 rfl rfl ti120 rfl)) fun a hA => ?_
  refine a0n hA 16 131071 rfl (lo_storeP hH ti120 rfl rfl (by first | rfl | (rw [hc_len hws2]; omega)) (by first | rfl | (rw [hc_len hws2]; omega)) (one_U32 _)) ?_
  clear hH; rintro _ w hH
  rw [hc_put hws2 (blk_length _ _)] at hH
  refine a_end (by kernel_rfl) ?_ _
  refine hK7 _ _ ?_
  clear hK7
  replace hA := hA.sub (E' := [(45, _), (44, _), (42, _), (30, _), (41, _), (40, _), (39, _), (38, _), (37, _), (36, _), (35, _), (34, _), (33, _), (32, _), (31, _), (29, _), (28, _), (27, _), (26, _), (25, _), (24, _), (0, _)]) ⟨rfl, rfl, rfl, rfl, rfl, rfl, rfl, rfl, rfl, rfl, rfl, rfl, rfl, rfl, rfl, rfl, rfl, rfl, rfl, rfl, rfl, rfl, trivial⟩
  refine wp_region_lit ?_
  refine mv hA fun a hA => ?_
  refine mv hA fun a hA => ?_
  refine sq hA (q_nilCheck rfl) rfl fun a hA => ?_
  refine sq hA (q_fld 8 Tryd.underlying127 rfl rfl ti32 rfl) rfl fun a hA => ?_
  refine sq hA (q_loadB hH 0 rfl (List.mem_singleton.2 rfl) Tryd.underlying32 rfl rfl (hc_8 (blk_length _ _) _ _)) rfl fun a hA => ?_
  obtain ⟨v_t51, hv_t51, hO_t51⟩ := Ow.cut hO_r (64) (((m ++ l).drop (64 * k)).length) (by first | omega | (simp only [List.length_drop]; omega)) (by first | omega | (simp only [List.length_drop]; omega))
  refine sq hA (q_slice Tryd.underlying32 ti5 rfl (64) (((m ++ l).drop (64 * k)).length) hv_t51 (Own.shp hO_r) rfl rfl (rfl) (rfl) (by first | omega | (simp only [List.length_drop]; omega)) (by first | omega | (simp only [List.length_drop]; omega))) rfl fun a hA => ?_
  replace hO_t51 : Ow B8 5 v_t51 ((m ++ l).drop (64 * (k + 1))) N_r := by rw [← drop_next]; exact hO_t51
  refine sq hA (q_nilCheck rfl) rfl fun a hA => ?_
  refine sq hA (q_fld 8 Tryd.underlying127 rfl rfl ti32 rfl) rfl fun a hA => ?_
  refine s0 hA (lo_store1 hH ti32 rfl rfl (by rw [hc_len (blk_length _ _)]; omega) (Own.one hO_t51)) ?_
  clear hH; rintro _ w hH
  rw [hc_set8 (blk_length _ _)] at hH
  refine wpList_nil ?_
  refine block_normal ?_
  exact ⟨_, by omega, k + 1, v_t51, N_r, hA.sub ⟨rfl, trivial⟩, hH, by omega, by exact hO_t51, rfl⟩
 ·skip
  have hk3 : k = (m ++ l).length / 64 := by simp at hc29 hk ⊢; omega
  refine wp_exit ?_
  refine then_exit ?_
  refine then_exit ?_
  refine exit_here ?_
  refine post_end hA (res_none rfl) ?_
  refine ⟨_, rfl, rfl, _, ⟨v_r, N_r, rfl, ?_⟩, ?_⟩
  · rw [← hk3]; exact hO_r
  · rw [← hk3]; exact HS.join hH

end Go.Proofs.YthhdilafnfcpbaaDoor
