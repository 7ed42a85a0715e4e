/- Layer 12 (vault): small parts. -/
import Derived.Test.YthhdilafnfcpbaaDoorJd
import Derived.Test.YthhdilafnfcpbaaDoorEd
import Derived.Test.YthhdilafnfcpbaaDoorGb
import Derived.Test.YthhdilafnfcpbaaDoorVz
namespace Go.Proofs.YthhdilafnfcpbaaDoor
open Go
set_option linter.unusedVariables false
set_option linter.unusedSimpArgs false
set_option maxRecDepth 100000

theorem tM' : (1099511627776#64 : BitVec 64).toNat = 1099511627776 := by decide
theorem own12_any {w0 : World} (v : Value) (l : Bs) (hr : By [] w0 v l) (hl : l.length ≤ 1048576) :
    Calls Tryd.prog 47 #[v] w0 (Ret fun r w' => ∃ v' N, v' = r ∧ Ow B8 5 v' l N ∧ HS [] w0 w' [N]) := by
 have hH := HS.start w0
 refine start (n := 6) (E := [(0, _)]) Tryd.func47 rfl rfl rfl (args_look rfl) ?_
 intro a hA
 refine wp_seq_k fun K1 hK1 => ?_
 refine wp_region_lit ?_
 refine asg hA fun a hA => ?_
 refine wpList_nil ?_
 refine hK1 _ _ ?_
 clear hK1
 refine wp_seq_k fun K2 hK2 => ?_
 refine wp_region_lit ?_
 refine sl hA (lo_bs (f := B8) (e := 5) ([]) hH rfl rfl (fun w => by kernel_rfl)) rfl ?_
 clear hH; rintro v_t3 w ⟨N_t3, hO_t3, hH⟩ a hA
 refine mv hA fun a hA => ?_
 refine sl hA (lo_appm hH Tryd.underlying32 Tryd.underlying32 (.inl rfl) ti5 rfl rfl rfl hO_t3 (Rd.src (hH.rd hr)) (one_B8 _) (by first | omega | (simp; done) | (simp; omega)) (by first | omega | (simp; done) | (simp; omega))) rfl ?_
 clear hH; rintro v_t5 w ⟨N_t5, hO_t5, hH⟩ a hA
 refine asg hA fun a hA => ?_
 refine wpList_nil ?_
 refine hK2 _ _ ?_
 clear hK2
 replace hA := hA.s1 2
 refine wp_ret ?_
 refine post_ret hA (res_1 rfl hA rfl) ?_
 exact ⟨_, rfl, v_t5, N_t5, rfl, by simpa using hO_t5, hH⟩

theorem lown12_any {w0 : World} (v : Value) (l : Bs) (hr : By [] w0 v l) (hl : l.length ≤ 1048576) :
    Calls Tryd.prog 18 #[v] w0 (Ret fun r w' => ∃ v' N, v' = r ∧ Ow B8 5 v' l N ∧ HS [] w0 w' [N]) := by
 have hH := HS.start w0
 refine start (n := 6) (E := [(0, _)]) Tryd.func18 rfl rfl rfl (args_look rfl) ?_
 intro a hA
 refine wp_seq_k fun K1 hK1 => ?_
 refine wp_region_lit ?_
 refine asg hA fun a hA => ?_
 refine wpList_nil ?_
 refine hK1 _ _ ?_
 clear hK1
 refine wp_seq_k fun K2 hK2 => ?_
 refine wp_region_lit ?_
 refine sl hA (lo_bs (f := B8) (e := 5) ([]) hH rfl rfl (fun w => by kernel_rfl)) rfl ?_
 clear hH; rintro v_t3 w ⟨N_t3, hO_t3, hH⟩ a hA
 refine mv hA fun a hA => ?_
 refine sl hA (lo_appm hH Tryd.underlying32 Tryd.underlying32 (.inl rfl) ti5 rfl rfl rfl hO_t3 (Rd.src (hH.rd hr)) (one_B8 _) (by first | omega | (simp; done) | (simp; omega)) (by first | omega | (simp; done) | (simp; omega))) rfl ?_
 clear hH; rintro v_t5 w ⟨N_t5, hO_t5, hH⟩ a hA
 refine asg hA fun a hA => ?_
 refine wpList_nil ?_
 refine hK2 _ _ ?_
 clear hK2
 replace hA := hA.s1 2
 refine wp_ret ?_
 refine post_ret hA (res_1 rfl hA rfl) ?_
 exact ⟨_, rfl, v_t5, N_t5, rfl, by simpa using hO_t5, hH⟩

theorem slotOf_any {w0 : World} (g : Nat) (hg : g ≤ 1099511627777) :
    Calls Tryd.prog 34 #[I g] w0 (Ret fun r w' => r = I (slotG g) ∧ HS [] w0 w' []) := by
 have hH := HS.start w0
 refine start (n := 6) (E := [(0, _)]) Tryd.func34 rfl rfl rfl (args_look rfl) ?_
 intro a hA
 have h1 := Nat.and_one_is_mod g
 refine wp_seq_k fun K1 hK1 => ?_
 refine wp_region_lit ?_
 refine asg hA fun a hA => ?_
 refine wpList_nil ?_
 refine hK1 _ _ ?_
 clear hK1
 refine wp_seq_k fun K2 hK2 => ?_
 refine wp_region_lit ?_
 refine mv hA fun a hA => ?_
 refine sq hA (q_andI (b := 1) rfl rfl (by omega) (by omega)) rfl fun a hA => ?_
 refine sq hA (q_subI (m := 2) rfl rfl (by omega)) rfl fun a hA => ?_
 refine asg hA fun a hA => ?_
 refine wpList_nil ?_
 refine hK2 _ _ ?_
 clear hK2
 replace hA := hA.s1 2
 refine wp_ret ?_
 refine post_ret hA (res_1 rfl hA rfl) ?_
 exact ⟨_, rfl, by unfold slotG; congr 1; omega, hH⟩

theorem pack_any {w0 : World} {lv : Nat} (hg : Gl lv w0) (g : Nat) (hg40 : g ≤ 1099511627776) (v : Value) (l : Bs) (hr : By [] w0 v l) (hl : l.length ≤ 262080) :
    Calls Tryd.prog 45 #[I g, v] w0 (Ret fun r w' => ∃ v' N, v' = r ∧ Ow B8 5 v' (wf (rec' g l)) N ∧ HS [] w0 w' [N]) := by
 have hH := HS.start w0
 refine start (n := 18) (E := [(0, _), (1, _)]) Tryd.func45 rfl rfl rfl (args_look rfl) ?_
 intro a hA
 have hrl := rec_len (b := l) hg40 (by omega)
 have hw9 := wd_le (n := g) (by omega)
 have hwt := wtext_len9 (show l.length ≤ 1048576 by omega)
 refine wp_seq_k fun K1 hK1 => ?_
 refine wp_region_lit ?_
 refine asg hA fun a hA => ?_
 refine wpList_nil ?_
 refine hK1 _ _ ?_
 clear hK1
 refine wp_seq_k fun K2 hK2 => ?_
 refine wp_region_lit ?_
 refine mv hA fun a hA => ?_
 refine sq hA (q_cvI64 Tryd.underlying3 Tryd.underlying91 rfl) rfl fun a hA => ?_
 rw [BitVec.ofInt_natCast] at hA
 refine sl hA (lo_call fn67 rfl (wnum_any _)) rfl ?_
 rintro _ w ⟨v_t10, N_t10, rfl, hO_t10, hC⟩ a hA
 replace hH := HS.call0 hH hC
 clear hC
 rw [BitVec.toNat_ofNat, Nat.mod_eq_of_lt (by omega)] at hO_t10
 refine mv hA fun a hA => ?_
 refine sl hA (lo_call fn68 rfl (wtext_any _ _ (hH.rd hr) (by first | omega | (simp; done) | (simp; omega)))) rfl ?_
 rintro _ w ⟨v_t12, N_t12, rfl, hO_t12, hC⟩ a hA
 replace hH := HS.call0 hH hC
 clear hC
 replace hH := hH.pick [1, 0] (Hs' := [_, _]) rfl
 refine sl hA (lo_appm hH Tryd.underlying32 Tryd.underlying32 (.inl rfl) ti5 rfl rfl rfl hO_t10 (Rd.src (Own.rd0 hO_t12 hH 1 rfl)) (one_B8 _) (by first | omega | (simp only [wnum_length]; omega)) (by first | omega | (simp only [wnum_length]; omega))) rfl ?_
 clear hH; rintro v_t13 w ⟨N_t13, hO_t13, hH⟩ a hA
 replace hO_t13 : Ow B8 5 v_t13 (rec' g l) N_t13 := hO_t13
 refine sl hA (lo_call fn60 rfl (wrap_any (hg.mono0 hH) _ _ (Own.rd0 hO_t13 hH 0 rfl) (by omega))) rfl ?_
 rintro _ w ⟨v_t14, N_t14, rfl, hO_t14, hC⟩ a hA
 replace hH := HS.call0 hH hC
 clear hC
 rw [wrapV_ok (by omega)] at hO_t14
 refine mv hA fun a hA => ?_
 refine sq hA (q_extract rfl rfl) rfl fun a hA => ?_
 refine sq hA (q_extract rfl rfl) rfl fun a hA => ?_
 refine asg hA fun a hA => ?_
 refine asg hA fun a hA => ?_
 refine wpList_nil ?_
 refine hK2 _ _ ?_
 clear hK2
 replace hA := hA.s2 5 4
 refine wp_seq_k fun K3 hK3 => ?_
 refine wp_region_lit ?_
 refine mv hA fun a hA => ?_
 refine asg hA fun a hA => ?_
 refine wpList_nil ?_
 refine hK3 _ _ ?_
 clear hK3
 replace hA := hA.s1 4
 refine wp_ret ?_
 refine post_ret hA (res_1 rfl hA rfl) ?_
 replace hH := hH.pick [0] (Hs' := [_]) rfl
 exact ⟨_, rfl, v_t14, N_t14, rfl, hO_t14, hH⟩

theorem unpack_any {w0 : World} (v : Value) (l : Bs) (hr : By [] w0 v l) (hl : l.length ≤ 1000000) :
    Calls Tryd.prog 33 #[v] w0 (Ret fun r w' => ∃ v' N, r = .tuple #[I (unp l).1, v', .bool (unp l).2.2] ∧ Ow B8 5 v' (unp l).2.1 N ∧ HS [] w0 w' [N]) := by
 have hH := HS.start w0
 refine start (n := 20) (E := [(0, _)]) Tryd.func33 rfl rfl rfl (args_look rfl) ?_
 intro a hA
 refine wp_seq_k fun K1 hK1 => ?_
 refine wp_region_lit ?_
 refine asg hA fun a hA => ?_
 refine asg hA fun a hA => ?_
 refine asg hA fun a hA => ?_
 refine wpList_nil ?_
 refine hK1 _ _ ?_
 clear hK1
 refine wp_seq_k fun K2 hK2 => ?_
 refine wp_region_lit ?_
 refine mv hA fun a hA => ?_
 refine sl hA (lo_call fn52 rfl (read_any _ _ (hH.rd hr) (by first | omega | (simp; done) | (simp; omega)))) rfl ?_
 rintro _ w ⟨b_t9, v_d9, N_d9, rfl, hO_d9, hC⟩ a hA
 replace hH := HS.call0 hH hC
 clear hC
 refine asg hA fun a hA => ?_
 refine wpList_nil ?_
 refine hK2 _ _ ?_
 clear hK2
 replace hA := hA.s4 5 4 3 2
 refine wp_seq_k fun K3 hK3 => ?_
 refine wp_region_lit ?_
 refine mv hA fun a hA => ?_
 refine sl hA (lo_call fn53 rfl (rnum_any b_t9 _ _ 0 0 (Own.rdM hO_d9 (Ns1 := [_]) hH 0 rfl) (Nat.zero_le _) (by omega) 1099511627776#64 1099511627776 tM' (HS.handed (Ns1 := [_]) hH))) rfl ?_
 rintro _ w ⟨k_t11, rfl, hk_t11, hd_t11, hC⟩ a hA
 replace hH := HS.call (Ns1 := [_]) hH hC
 clear hC
 rw [List.drop_zero] at hA hH hd_t11
 have eS1 : (l.drop k_t11, (rNum 1099511627776 (l, 0)).2.2) = (rNum 1099511627776 (l, 0)).2 := Prod.ext hd_t11 rfl
 have hle := rNum_le 1099511627776 (l, 0)
 refine mv hA fun a hA => ?_
 refine sl hA (lo_call fn58 rfl (rtext_any b_t9 _ _ _ _ (Own.rdM hO_d9 (Ns1 := [_]) hH 0 rfl) hk_t11 (by omega) _ (by decide) (HS.handed (Ns1 := [_]) hH))) rfl ?_
 rintro _ w ⟨k_t13, v_t13, N_t13, rfl, hO_t13, hk_t13, hd_t13, hC⟩ a hA
 replace hH := HS.call (Ns1 := [_]) hH hC
 clear hC
 rw [eS1] at hH hO_t13 hd_t13
 have eS2 : (l.drop k_t13, (rText 262144 (rNum 1099511627776 (l, 0)).2).2.2) = (rText 262144 (rNum 1099511627776 (l, 0)).2).2 := Prod.ext hd_t13 rfl
 refine asg hA fun a hA => ?_
 refine asg hA fun a hA => ?_
 refine wpList_nil ?_
 refine hK3 _ _ ?_
 clear hK3
 replace hA := hA.s6 7 6 5 4 3 2
 refine wp_seq_k fun K4 hK4 => ?_
 refine wp_region_lit ?_
 refine mv hA fun a hA => ?_
 refine sq hA (q_cv64_I Tryd.underlying91 Tryd.underlying3 rfl (by exact Nat.le_trans hle (by decide))) rfl fun a hA => ?_
 refine mv hA fun a hA => ?_
 refine mv hA fun a hA => ?_
 refine sl hA (lo_call fn59 rfl (rend_any b_t9 _ _ _ _ (Own.rdM hO_d9 (Ns1 := [_]) hH 1 rfl) hk_t13 (by omega) (HS.handed (Ns1 := [_]) hH))) rfl ?_
 rintro _ w ⟨rfl, hC⟩ a hA
 replace hH := HS.call (Ns1 := [_]) hH hC
 clear hC
 rw [eS2] at hA hH
 refine sq hA (q_eqlI (n := 0) rfl rfl) rfl fun a hA => ?_
 refine asg hA fun a hA => ?_
 refine asg hA fun a hA => ?_
 refine asg hA fun a hA => ?_
 refine wpList_nil ?_
 refine hK4 _ _ ?_
 clear hK4
 replace hA := hA.s3 4 3 2
 refine wp_ret ?_
 refine post_ret hA (res_3 rfl hA rfl rfl rfl) ?_
 replace hH := hH.pick [1, 0, 2] (Hs' := [_, _, _]) rfl
 replace hH := hH.pick [0] (Hs' := [_]) rfl
 refine ⟨_, rfl, v_t13, N_t13, ?_, hO_t13, hH⟩
 unfold unp
 rw [show decide ((((rEnd (rText 262144 (rNum 1099511627776 (l, 0)).2).2).1 : Nat) : Int) = 0) = decide ((rEnd (rText 262144 (rNum 1099511627776 (l, 0)).2).2).1 = 0) from decide_eq_decide.2 (by omega)]

theorem off_t {w0 : World} (b_v b_t g : Nat) (x rr : Value) (hH : HS [b_v] w0 w0 [[(b_v, Obj.cells (vC b_t g x rr true).toArray 68 (0, 0))]]) :
    Calls Tryd.prog 42 #[(.pointer (some ⟨b_v, 0, none⟩))] w0 (Ret fun r w' => r = I 100 ∧ HS [b_v] w0 w' [[(b_v, Obj.cells (vC b_t g x rr true).toArray 68 (0, 0))]]) := by
 refine start (n := 11) (E := [(0, _)]) Tryd.func42 rfl rfl rfl (args_look rfl) ?_
 intro a hA
 refine wp_seq_k fun K1 hK1 => ?_
 refine wp_region_lit ?_
 refine asg hA fun a hA => ?_
 refine wpList_nil ?_
 refine hK1 _ _ ?_
 clear hK1
 refine wp_seq_k fun K2 hK2 => ?_
 refine wp_block ?_
 refine wp_seq_k fun K3 hK3 => ?_
 refine wp_region_lit ?_
 refine mv hA fun a hA => ?_
 refine sq hA (q_ptrNil Tryd.underlying27 rfl rfl) rfl fun a hA => ?_
 refine asg hA fun a hA => ?_
 refine wpList_nil ?_
 refine hK3 _ _ ?_
 clear hK3
 replace hA := hA.s3 3 2 0
 refine cond_f hA rfl ?_
 refine wp_seq_k fun K4 hK4 => ?_
 refine wp_region_lit ?_
 refine mv hA fun a hA => ?_
 refine sq hA (q_nilCheck rfl) rfl fun a hA => ?_
 refine sq hA (q_fld 4 Tryd.underlying68 rfl rfl ti4 rfl) rfl fun a hA => ?_
 refine sq hA (q_loadB hH 0 rfl (List.mem_singleton.2 rfl) Tryd.underlying4 rfl rfl rfl) rfl fun a hA => ?_
 refine asg hA fun a hA => ?_
 refine wpList_nil ?_
 refine hK4 _ _ ?_
 clear hK4
 replace hA := hA.s2 6 2
 refine cond_t hA rfl ?_
 refine wp_seq_k fun K5 hK5 => ?_
 refine wp_region_lit ?_
 refine asg hA fun a hA => ?_
 refine wpList_nil ?_
 refine hK5 _ _ ?_
 clear hK5
 replace hA := hA.s1 2
 refine wp_ret ?_
 refine block_ret ?_
 refine then_ret ?_
 refine post_ret hA (res_1 rfl hA rfl) ?_
 exact ⟨_, rfl, rfl, hH⟩

theorem off_f {w0 : World} (b_v b_t g : Nat) (x rr : Value) (hH : HS [b_v] w0 w0 [[(b_v, Obj.cells (vC b_t g x rr false).toArray 68 (0, 0))]]) :
    Calls Tryd.prog 42 #[(.pointer (some ⟨b_v, 0, none⟩))] w0 (Ret fun r w' => r = I 0 ∧ HS [b_v] w0 w' [[(b_v, Obj.cells (vC b_t g x rr false).toArray 68 (0, 0))]]) := by
 refine start (n := 11) (E := [(0, _)]) Tryd.func42 rfl rfl rfl (args_look rfl) ?_
 intro a hA
 refine wp_seq_k fun K1 hK1 => ?_
 refine wp_region_lit ?_
 refine asg hA fun a hA => ?_
 refine wpList_nil ?_
 refine hK1 _ _ ?_
 clear hK1
 refine wp_seq_k fun K2 hK2 => ?_
 refine wp_block ?_
 refine wp_seq_k fun K3 hK3 => ?_
 refine wp_region_lit ?_
 refine mv hA fun a hA => ?_
 refine sq hA (q_ptrNil Tryd.underlying27 rfl rfl) rfl fun a hA => ?_
 refine asg hA fun a hA => ?_
 refine wpList_nil ?_
 refine hK3 _ _ ?_
 clear hK3
 replace hA := hA.s3 3 2 0
 refine cond_f hA rfl ?_
 refine wp_seq_k fun K4 hK4 => ?_
 refine wp_region_lit ?_
 refine mv hA fun a hA => ?_
 refine sq hA (q_nilCheck rfl) rfl fun a hA => ?_
 refine sq hA (q_fld 4 Tryd.underlying68 rfl rfl ti4 rfl) rfl fun a hA => ?_
 refine sq hA (q_loadB hH 0 rfl (List.mem_singleton.2 rfl) Tryd.underlying4 rfl rfl rfl) rfl fun a hA => ?_
 refine asg hA fun a hA => ?_
 refine wpList_nil ?_
 refine hK4 _ _ ?_
 clear hK4
 replace hA := hA.s2 6 2
 refine cond_f hA rfl ?_
 refine wp_skip ?_
 refine block_normal ?_
 refine hK2 _ _ ?_
 clear hK2
 replace hA := hA.s1 2
 refine wp_seq_k fun K5 hK5 => ?_
 refine wp_region_lit ?_
 refine asg hA fun a hA => ?_
 refine wpList_nil ?_
 refine hK5 _ _ ?_
 clear hK5
 refine wp_ret ?_
 refine post_ret hA (res_1 rfl hA rfl) ?_
 exact ⟨_, rfl, rfl, hH⟩

theorem gen_t {w0 : World} (b_v b_t g : Nat) (x rr : Value) (hH : HS (doms [[(b_v, Obj.cells (vC b_t g x rr true).toArray 68 (0, 0))]]) w0 w0 [[(b_v, Obj.cells (vC b_t g x rr true).toArray 68 (0, 0))]]) :
    Calls Tryd.prog 25 #[(.pointer (some ⟨b_v, 0, none⟩))] w0 (Ret fun r w' => r = I 0 ∧ HS (doms [[(b_v, Obj.cells (vC b_t g x rr true).toArray 68 (0, 0))]]) w0 w' [[(b_v, Obj.cells (vC b_t g x rr true).toArray 68 (0, 0))]]) := by
 refine start (n := 10) (E := [(0, _)]) Tryd.func25 rfl rfl rfl (args_look rfl) ?_
 intro a hA
 refine wp_seq_k fun K1 hK1 => ?_
 refine wp_region_lit ?_
 refine asg hA fun a hA => ?_
 refine wpList_nil ?_
 refine hK1 _ _ ?_
 clear hK1
 refine wp_seq_k fun K2 hK2 => ?_
 refine wp_seq_k fun K3 hK3 => ?_
 refine wp_region_lit ?_
 refine mv hA fun a hA => ?_
 refine sl hA (lo_call fn42 rfl (off_t b_v b_t _ _ _ (HS.handed (Ns1 := [_]) hH))) rfl ?_
 rintro _ w ⟨rfl, hC⟩ a hA
 replace hH := HS.call (Ns1 := [_]) hH hC
 clear hC
 refine sq hA (q_neqI (n := 0) rfl rfl) rfl fun a hA => ?_
 refine wpList_nil ?_
 refine hK3 _ _ ?_
 clear hK3
 replace hA := hA.s3 5 2 0
 refine cond_d hA rfl (fun _ => ?_) (fun hnn => absurd ((by decide)) hnn)
 refine wp_seq_k fun K4 hK4 => ?_
 refine wp_region_lit ?_
 refine asg hA fun a hA => ?_
 refine wpList_nil ?_
 refine hK4 _ _ ?_
 clear hK4
 replace hA := hA.s2 2 0
 refine wp_ret ?_
 refine then_ret ?_
 refine post_ret hA (res_1 rfl hA rfl) ?_
 exact ⟨_, rfl, rfl, hH⟩

theorem gen_f {w0 : World} (b_v b_t g : Nat) (x rr : Value) (hH : HS (doms [[(b_v, Obj.cells (vC b_t g x rr false).toArray 68 (0, 0))]]) w0 w0 [[(b_v, Obj.cells (vC b_t g x rr false).toArray 68 (0, 0))]]) :
    Calls Tryd.prog 25 #[(.pointer (some ⟨b_v, 0, none⟩))] w0 (Ret fun r w' => r = I g ∧ HS (doms [[(b_v, Obj.cells (vC b_t g x rr false).toArray 68 (0, 0))]]) w0 w' [[(b_v, Obj.cells (vC b_t g x rr false).toArray 68 (0, 0))]]) := by
 refine start (n := 10) (E := [(0, _)]) Tryd.func25 rfl rfl rfl (args_look rfl) ?_
 intro a hA
 refine wp_seq_k fun K1 hK1 => ?_
 refine wp_region_lit ?_
 refine asg hA fun a hA => ?_
 refine wpList_nil ?_
 refine hK1 _ _ ?_
 clear hK1
 refine wp_seq_k fun K2 hK2 => ?_
 refine wp_seq_k fun K3 hK3 => ?_
 refine wp_region_lit ?_
 refine mv hA fun a hA => ?_
 refine sl hA (lo_call fn42 rfl (off_f b_v b_t _ _ _ (HS.handed (Ns1 := [_]) hH))) rfl ?_
 rintro _ w ⟨rfl, hC⟩ a hA
 replace hH := HS.call (Ns1 := [_]) hH hC
 clear hC
 refine sq hA (q_neqI (n := 0) rfl rfl) rfl fun a hA => ?_
 refine wpList_nil ?_
 refine hK3 _ _ ?_
 clear hK3
 replace hA := hA.s3 5 2 0
 refine cond_d hA rfl (fun hnn => absurd hnn ((fun h => h rfl))) (fun _ => ?_)
 refine wp_skip ?_
 refine hK2 _ _ ?_
 clear hK2
 replace hA := hA.s2 2 0
 refine wp_seq_k fun K4 hK4 => ?_
 refine wp_region_lit ?_
 refine mv hA fun a hA => ?_
 refine sq hA (q_nilCheck rfl) rfl fun a hA => ?_
 refine sq hA (q_fld 1 Tryd.underlying68 rfl rfl ti3 rfl) rfl fun a hA => ?_
 refine sq hA (q_loadB hH 0 rfl (List.mem_singleton.2 rfl) Tryd.underlying3 rfl rfl rfl) rfl fun a hA => ?_
 refine asg hA fun a hA => ?_
 refine wpList_nil ?_
 refine hK4 _ _ ?_
 clear hK4
 replace hA := hA.s1 2
 refine wp_ret ?_
 refine post_ret hA (res_1 rfl hA rfl) ?_
 exact ⟨_, rfl, rfl, hH⟩

theorem vtext_t {w0 : World} (b_v b_t g : Nat) (x rr : Value) (hH : HS (doms [[(b_v, Obj.cells (vC b_t g x rr true).toArray 68 (0, 0))]]) w0 w0 [[(b_v, Obj.cells (vC b_t g x rr true).toArray 68 (0, 0))]]) :
    Calls Tryd.prog 26 #[(.pointer (some ⟨b_v, 0, none⟩))] w0 (Ret fun r w' => r = nilV ∧ HS (doms [[(b_v, Obj.cells (vC b_t g x rr true).toArray 68 (0, 0))]]) w0 w' [[(b_v, Obj.cells (vC b_t g x rr true).toArray 68 (0, 0))]]) := by
 refine start (n := 11) (E := [(0, _)]) Tryd.func26 rfl rfl rfl (args_look rfl) ?_
 intro a hA
 refine wp_seq_k fun K1 hK1 => ?_
 refine wp_region_lit ?_
 refine asg hA fun a hA => ?_
 refine wpList_nil ?_
 refine hK1 _ _ ?_
 clear hK1
 refine wp_seq_k fun K2 hK2 => ?_
 refine wp_seq_k fun K3 hK3 => ?_
 refine wp_region_lit ?_
 refine mv hA fun a hA => ?_
 refine sl hA (lo_call fn42 rfl (off_t b_v b_t _ _ _ (HS.handed (Ns1 := [_]) hH))) rfl ?_
 rintro _ w ⟨rfl, hC⟩ a hA
 replace hH := HS.call (Ns1 := [_]) hH hC
 clear hC
 refine sq hA (q_neqI (n := 0) rfl rfl) rfl fun a hA => ?_
 refine wpList_nil ?_
 refine hK3 _ _ ?_
 clear hK3
 replace hA := hA.s3 5 2 0
 refine cond_d hA rfl (fun _ => ?_) (fun hnn => absurd ((by decide)) hnn)
 refine wp_seq_k fun K4 hK4 => ?_
 refine wp_region_lit ?_
 refine asg hA fun a hA => ?_
 refine wpList_nil ?_
 refine hK4 _ _ ?_
 clear hK4
 replace hA := hA.s2 2 0
 refine wp_ret ?_
 refine then_ret ?_
 refine post_ret hA (res_1 rfl hA rfl) ?_
 exact ⟨_, rfl, rfl, hH⟩

theorem vtext_f {w0 : World} (b_v b_t g : Nat) (x rr : Value) (text : Bs) (N_x : Hl) (hO_x : Ow B8 5 x text N_x) (hxl : text.length ≤ 1048576) (hH : HS (doms [[(b_v, Obj.cells (vC b_t g x rr false).toArray 68 (0, 0))], N_x]) w0 w0 [[(b_v, Obj.cells (vC b_t g x rr false).toArray 68 (0, 0))], N_x]) :
    Calls Tryd.prog 26 #[(.pointer (some ⟨b_v, 0, none⟩))] w0 (Ret fun r w' => ∃ v' N', v' = r ∧ Ow B8 5 v' text N' ∧ HS (doms [[(b_v, Obj.cells (vC b_t g x rr false).toArray 68 (0, 0))], N_x]) w0 w' [[(b_v, Obj.cells (vC b_t g x rr false).toArray 68 (0, 0))], N_x, N']) := by
 refine start (n := 11) (E := [(0, _)]) Tryd.func26 rfl rfl rfl (args_look rfl) ?_
 intro a hA
 refine wp_seq_k fun K1 hK1 => ?_
 refine wp_region_lit ?_
 refine asg hA fun a hA => ?_
 refine wpList_nil ?_
 refine hK1 _ _ ?_
 clear hK1
 refine wp_seq_k fun K2 hK2 => ?_
 refine wp_seq_k fun K3 hK3 => ?_
 refine wp_region_lit ?_
 refine mv hA fun a hA => ?_
 refine sl hA (lo_call fn42 rfl (off_f b_v b_t _ _ _ (HS.handed (Ns1 := [_]) hH))) rfl ?_
 rintro _ w ⟨rfl, hC⟩ a hA
 replace hH := HS.call (Ns1 := [_]) hH hC
 clear hC
 refine sq hA (q_neqI (n := 0) rfl rfl) rfl fun a hA => ?_
 refine wpList_nil ?_
 refine hK3 _ _ ?_
 clear hK3
 replace hA := hA.s3 5 2 0
 refine cond_d hA rfl (fun hnn => absurd hnn ((fun h => h rfl))) (fun _ => ?_)
 refine wp_skip ?_
 refine hK2 _ _ ?_
 clear hK2
 replace hA := hA.s2 2 0
 refine wp_seq_k fun K4 hK4 => ?_
 refine wp_region_lit ?_
 refine mv hA fun a hA => ?_
 refine sq hA (q_nilCheck rfl) rfl fun a hA => ?_
 refine sq hA (q_fld 2 Tryd.underlying68 rfl rfl ti32 rfl) rfl fun a hA => ?_
 refine sq hA (q_loadB hH 0 rfl (List.mem_singleton.2 rfl) Tryd.underlying32 rfl rfl rfl) rfl fun a hA => ?_
 refine sl hA (lo_call fn47 rfl (own12_any _ _ (Own.rd0 hO_x hH 1 rfl) (by first | omega | (simp; done) | (simp; omega)))) rfl ?_
 rintro _ w ⟨v_t10, N_t10, rfl, hO_t10, hC⟩ a hA
 replace hH := HS.call0 hH hC
 clear hC
 refine asg hA fun a hA => ?_
 refine wpList_nil ?_
 refine hK4 _ _ ?_
 clear hK4
 replace hA := hA.s1 2
 refine wp_ret ?_
 refine post_ret hA (res_1 rfl hA rfl) ?_
 replace hH := hH.pick [1, 2, 0] (Hs' := [_, _, _]) rfl
 exact ⟨_, rfl, v_t10, N_t10, rfl, hO_t10, hH⟩

theorem recs_t {w0 : World} (b_v b_t g : Nat) (x rr : Value) (hH : HS (doms [[(b_v, Obj.cells (vC b_t g x rr true).toArray 68 (0, 0))]]) w0 w0 [[(b_v, Obj.cells (vC b_t g x rr true).toArray 68 (0, 0))]]) :
    Calls Tryd.prog 23 #[(.pointer (some ⟨b_v, 0, none⟩))] w0 (Ret fun r w' => r = nilV ∧ HS (doms [[(b_v, Obj.cells (vC b_t g x rr true).toArray 68 (0, 0))]]) w0 w' [[(b_v, Obj.cells (vC b_t g x rr true).toArray 68 (0, 0))]]) := by
 refine start (n := 25) (E := [(0, _)]) Tryd.func23 rfl rfl rfl (args_look rfl) ?_
 intro a hA
 refine wp_seq_k fun K1 hK1 => ?_
 refine wp_region_lit ?_
 refine asg hA fun a hA => ?_
 refine wpList_nil ?_
 refine hK1 _ _ ?_
 clear hK1
 refine wp_seq_k fun K2 hK2 => ?_
 refine wp_seq_k fun K3 hK3 => ?_
 refine wp_region_lit ?_
 refine mv hA fun a hA => ?_
 refine sl hA (lo_call fn42 rfl (off_t b_v b_t _ _ _ (HS.handed (Ns1 := [_]) hH))) rfl ?_
 rintro _ w ⟨rfl, hC⟩ a hA
 replace hH := HS.call (Ns1 := [_]) hH hC
 clear hC
 refine sq hA (q_neqI (n := 0) rfl rfl) rfl fun a hA => ?_
 refine wpList_nil ?_
 refine hK3 _ _ ?_
 clear hK3
 replace hA := hA.s3 8 2 0
 refine cond_d hA rfl (fun _ => ?_) (fun hnn => absurd ((by decide)) hnn)
 refine wp_seq_k fun K4 hK4 => ?_
 refine wp_region_lit ?_
 refine asg hA fun a hA => ?_
 refine wpList_nil ?_
 refine hK4 _ _ ?_
 clear hK4
 replace hA := hA.s2 2 0
 refine wp_ret ?_
 refine then_ret ?_
 refine post_ret hA (res_1 rfl hA rfl) ?_
 exact ⟨_, rfl, rfl, hH⟩

theorem recs_f {w0 : World} (b_v b_t g : Nat) (x rr : Value) (recs : List Bs) (N_o N_od : Hl) (hR_r : RowsH 32 rr recs N_o N_od) (hrl : ∀ y ∈ recs, y.length ≤ 262144) (hrn : recs.length ≤ 1048576) (hH : HS (doms [[(b_v, Obj.cells (vC b_t g x rr false).toArray 68 (0, 0))], N_o, N_od]) w0 w0 [[(b_v, Obj.cells (vC b_t g x rr false).toArray 68 (0, 0))], N_o, N_od]) :
    Calls Tryd.prog 23 #[(.pointer (some ⟨b_v, 0, none⟩))] w0 (Ret fun r w' => ∃ v' N1 N2, v' = r ∧ RowsH 32 v' recs N1 N2 ∧ HS (doms [[(b_v, Obj.cells (vC b_t g x rr false).toArray 68 (0, 0))], N_o, N_od]) w0 w' [[(b_v, Obj.cells (vC b_t g x rr false).toArray 68 (0, 0))], N_o, N_od, N1, N2]) := by
 refine start (n := 25) (E := [(0, _)]) Tryd.func23 rfl rfl rfl (args_look rfl) ?_
 intro a hA
 refine wp_seq_k fun K1 hK1 => ?_
 refine wp_region_lit ?_
 refine asg hA fun a hA => ?_
 refine wpList_nil ?_
 refine hK1 _ _ ?_
 clear hK1
 refine wp_seq_k fun K2 hK2 => ?_
 refine wp_seq_k fun K3 hK3 => ?_
 refine wp_region_lit ?_
 refine mv hA fun a hA => ?_
 refine sl hA (lo_call fn42 rfl (off_f b_v b_t _ _ _ (HS.handed (Ns1 := [_]) hH))) rfl ?_
 rintro _ w ⟨rfl, hC⟩ a hA
 replace hH := HS.call (Ns1 := [_]) hH hC
 clear hC
 refine sq hA (q_neqI (n := 0) rfl rfl) rfl fun a hA => ?_
 refine wpList_nil ?_
 refine hK3 _ _ ?_
 clear hK3
 replace hA := hA.s3 8 2 0
 refine cond_d hA rfl (fun hnn => absurd hnn ((fun h => h rfl))) (fun _ => ?_)
 refine wp_skip ?_
 refine hK2 _ _ ?_
 clear hK2
 replace hA := hA.s2 2 0
 refine wp_seq_k fun K4 hK4 => ?_
 refine wp_region_lit ?_
 refine asg hA fun a hA => ?_
 refine wpList_nil ?_
 refine hK4 _ _ ?_
 clear hK4
 refine wp_seq_k fun K5 hK5 => ?_
 refine wp_seq_k fun K6 hK6 => ?_
 refine wp_region_lit ?_
 refine mv hA fun a hA => ?_
 refine sq hA (q_nilCheck rfl) rfl fun a hA => ?_
 refine sq hA (q_fld 3 Tryd.underlying68 rfl rfl ti33 rfl) rfl fun a hA => ?_
 refine sq hA (q_loadB hH 0 rfl (List.mem_singleton.2 rfl) Tryd.underlying33 rfl rfl rfl) rfl fun a hA => ?_
 refine sq hA (q_len Tryd.underlying33 rfl (RowsH.shp hR_r)) rfl fun a hA => ?_
 refine mv hA fun a hA => ?_
 refine wpList_nil ?_
 refine hK6 _ _ ?_
 clear hK6
 replace hA := hA.s5 14 13 12 3 2
 refine wp_block ?_
 replace hH := hH.nilFront
 replace hH := hH.nilFront
 replace hH := hH.pick [0, 1, 3, 4, 2] (Hs' := [_, _, _, _, _]) rfl
 replace hH := HS.fold [_, _, _, _] [_] hH
 obtain ⟨NR7, hNR7, hH⟩ := hH
 refine wp_loop_ghost (fun gm a w => ∃ i : Nat, ∃ v_q : Value, ∃ N_q : Hl, ∃ N_qd : Hl, At 25 [(14, I i), (13, I (recs.length : Int)), (12, rr), (3, v_q), (2, (.slice none 0 0))] a ∧ HS (doms [[(b_v, Obj.cells (vC b_t g x rr false).toArray 68 (0, 0))], N_o, N_od]) w0 w ([N_q, N_qd, N_o, N_od, NR7]) ∧ (i ≤ recs.length) ∧ (RowsH 32 v_q (recs.take i) N_q N_qd) ∧ gm = recs.length - i) (recs.length - (0)) ⟨0, nilV, [], [], hA.sub ⟨rfl, rfl, rfl, rfl, rfl, trivial⟩, hH, by omega, by exact RowsH.nil _, rfl⟩ ?_
 clear hA hH
 rintro gm a w ⟨i, v_q, N_q, N_qd, hA, hH, hi, hR_q, rfl⟩
 refine wp_seq_k fun K8 hK8 => ?_
 refine wp_region_lit ?_
 refine sq hA (q_lssI rfl rfl) rfl fun a hA => ?_
 have hyl : (recs.getD i []).length ≤ 262144 := by by_cases h : i < recs.length; exact hrl _ (getD_mem h); simp [List.getD, show recs[i]? = none from List.getElem?_eq_none (by omega)]
 refine wpList_nil ?_
 refine hK8 _ _ ?_
 clear hK8
 refine wp_seq_k fun K9 hK9 => ?_
 refine cond_d hA rfl (fun hc15 => ?_) (fun hc15 => ?_)
 ·skip
  refine wp_skip ?_
  refine hK9 _ _ ?_
  clear hK9
  refine wp_seq_k fun K10 hK10 => ?_
  refine wp_block ?_
  refine wp_seq_k fun K11 hK11 => ?_
  refine wp_region_lit ?_
  refine sq hA (q_idx1 (i) Tryd.underlying33 ti32 rfl rfl (by first | omega | rfl) (RowsH.shp hR_r) (by first | omega | (simp; done) | (simp; omega) | (rw [List.length_map]; assumption) | assumption | rfl | (simp [*]; done) | (simp [*]; omega))) rfl fun a hA => ?_
  have hx_t17 := hR_r
  obtain ⟨vs_t17, hvl_t17, hvo_t17, hvr_t17⟩ := hx_t17
  refine sq hA (q_loadR Tryd.underlying32 rfl rfl (Own.rd0 hvo_t17 hH 2 rfl) (by first | omega | (simp; done) | (simp; omega) | (rw [List.length_map]; assumption) | assumption | rfl | (simp [*]; done) | (simp [*]; omega)) (getD_some' vs_t17 nilV (by first | omega | (simp; done) | (simp; omega) | (rw [List.length_map]; assumption) | assumption | rfl | (simp [*]; done) | (simp [*]; omega)))) rfl fun a hA => ?_
  refine asg hA fun a hA => ?_
  refine wpList_nil ?_
  refine hK11 _ _ ?_
  clear hK11
  refine wp_region_lit ?_
  refine mv hA fun a hA => ?_
  refine mv hA fun a hA => ?_
  refine sl hA (lo_call fn47 rfl (own12_any _ _ ((hvr_t17 (i) (by first | omega | (simp; done) | (simp; omega) | (rw [List.length_map]; assumption) | assumption | rfl | (simp [*]; done) | (simp [*]; omega))) [] _ (RO.of hH 3 rfl)) (by first | omega | (simp; done) | (simp; omega)))) rfl ?_
  rintro _ w ⟨v_t20, N_t20, rfl, hO_t20, hC⟩ a hA
  replace hH := HS.call0 hH hC
  clear hC
  refine sl hA (lo_build1 hH Tryd.underlying33 ti32 rfl rfl (Own.one hO_t20)) rfl ?_
  clear hH; rintro v_t21 w ⟨N_t21, hO_t21, hH⟩ a hA
  replace hH := hH.pick [2, 0, 1, 3, 4, 5, 6] (Hs' := [_, _, _, _, _, _, _]) rfl
  obtain ⟨vs_t22, hvl_t22, hvo_t22, hvr_t22⟩ := hR_q
  refine sl hA (lo_append hH Tryd.underlying33 Tryd.underlying33 (.inl rfl) ti32 rfl rfl rfl hvo_t22 (Rd.src (Own.rd0 hO_t21 hH 1 rfl)) (by intro u hu; rw [List.mem_singleton.1 hu]; exact Own.one hO_t20) (by first | omega | (simp; done) | (simp; omega)) (by first | omega | (simp; done) | (simp; omega))) rfl ?_
  clear hH; rintro v_t22 w ⟨N_t22, hO_t22, hH⟩ a hA
  replace hH := HS.join (hH.pick [2, 3, 0, 1, 4, 5, 6] (Hs' := [_, _, _, _, _, _, _]) rfl)
  obtain ⟨N_dt22, hN_dt22, hR_t22⟩ : ∃ N, N = _ ∧ RowsH 32 v_t22 _ N_t22 N := ⟨_, rfl, RowsH.snoc hvl_t22 hO_t22 hvr_t22 (Own.rdh hO_t20)⟩
  rw [← hN_dt22] at hH
  refine asg hA fun a hA => ?_
  refine wpList_nil ?_
  refine block_normal ?_
  refine hK10 _ _ ?_
  clear hK10
  refine wp_region_lit ?_
  refine sq hA (q_addI (n := 1) rfl rfl (by omega)) rfl fun a hA => ?_
  refine mv hA fun a hA => ?_
  refine wpList_nil ?_
  replace hH := hH.pick [1, 0, 3, 4, 5, 2] (Hs' := [_, _, _, _, _, _]) rfl
  replace hH := hH.pick [0, 1, 2, 3, 4] (Hs' := [_, _, _, _, _]) rfl
  exact ⟨_, by omega, i + 1, v_t22, N_t22, N_dt22, hA.sub ⟨rfl, rfl, rfl, rfl, rfl, trivial⟩, hH, by omega, by (rw [take_snoc (d := []) recs (by omega)]; exact hR_t22), rfl⟩
 ·skip
  obtain rfl : i = recs.length := by omega
  rw [List.take_length] at hR_q
  refine wp_exit ?_
  refine then_exit ?_
  replace hH := HS.unfold [_, _, _, _] hNR7 hH
  refine then_exit ?_
  refine exit_here ?_
  refine hK5 _ _ ?_
  clear hK5
  replace hA := hA.s2 3 2
  refine wp_seq_k fun K12 hK12 => ?_
  refine wp_region_lit ?_
  refine mv hA fun a hA => ?_
  refine asg hA fun a hA => ?_
  refine wpList_nil ?_
  refine hK12 _ _ ?_
  clear hK12
  replace hA := hA.s1 2
  refine wp_ret ?_
  refine post_ret hA (res_1 rfl hA rfl) ?_
  replace hH := hH.pick [4, 2, 3, 0, 1] (Hs' := [_, _, _, _, _]) rfl
  exact ⟨_, rfl, v_q, N_q, N_qd, rfl, hR_q, hH⟩

end Go.Proofs.YthhdilafnfcpbaaDoor
