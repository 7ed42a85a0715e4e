/- Layer 2 (sha): sums. -/
import Derived.Test.YthhdilafnfcpbaaDoorTa
import Derived.Test.YthhdilafnfcpbaaDoorTb
import Derived.Test.YthhdilafnfcpbaaDoorLl
import Derived.Test.YthhdilafnfcpbaaDoorMza
import Derived.Test.YthhdilafnfcpbaaDoorBa
import Derived.Test.YthhdilafnfcpbaaDoorBb
import Derived.Test.YthhdilafnfcpbaaDoorBc
namespace Go.Proofs.YthhdilafnfcpbaaDoor
open Go
set_option linter.unusedVariables false
set_option linter.unusedSimpArgs false
set_option maxRecDepth 100000

theorem hsum_any {w0 : World} {lv : Nat} (hg : Gl lv w0) (b : Nat) (m : Bs) (N : Hl) (hO : HashM 127 5 b m N) (hN : RO [] w0 N) (hm : m.length ≤ 1048576) :
    Calls Tryd.prog 77 #[(.pointer (some ⟨b, 0, none⟩))] w0 (Ret fun r w' => r = .agg ((sha m).map B8).toArray ∧ HS [] w0 w' []) := by
 have hH := HS.start w0
 refine start (n := 44) (E := [(0, _)]) Tryd.func77 rfl rfl rfl (args_look rfl) ?_
 intro a hA
 have hO' := hO
 obtain ⟨v_r, N_r, hNe, hO_r⟩ := hO'
 have hws := blks_length iv_length m (m.length / 64)
 have hmb : (b, Obj.cells (hc (blks iv m (m.length / 64)) v_r m.length).toArray 127 (0, 0)) ∈ N := by rw [hNe]; exact List.mem_append_left _ (List.mem_singleton.2 rfl)
 have hpl := padB_length m.length
 refine wp_seq_k fun K1 hK1 => ?_
 refine wp_region_lit ?_
 refine sl hA (lo_allocA hH ti94) rfl ?_
 clear hH; rintro _ w ⟨b_t2, rfl, hH⟩ a hA
 refine wpList_nil ?_
 refine hK1 _ _ ?_
 clear hK1
 refine wp_seq_k fun K2 hK2 => ?_
 refine wp_region_lit ?_
 refine sl hA (lo_allocA hH ti94) rfl ?_
 clear hH; rintro _ w ⟨b_t3, rfl, hH⟩ a hA
 refine wpList_nil ?_
 refine hK2 _ _ ?_
 clear hK2
 refine wp_seq_k fun K3 hK3 => ?_
 refine wp_seq_k fun K4 hK4 => ?_
 refine wp_region_lit ?_
 refine mv hA fun a hA => ?_
 refine sq hA (q_ptrNil Tryd.underlying114 rfl rfl) rfl fun a hA => ?_
 refine wpList_nil ?_
 refine hK4 _ _ ?_
 clear hK4
 replace hA := hA.s4 9 3 2 0
 refine cond_f hA rfl ?_
 refine wp_skip ?_
 refine hK3 _ _ ?_
 clear hK3
 replace hA := hA.s3 3 2 0
 refine wp_seq_k fun K5 hK5 => ?_
 refine wp_region_lit ?_
 refine mv hA fun a hA => ?_
 refine sl hA (lo_call fn84 rfl (clone_any b m N hO (hN.later hH) (by omega))) rfl ?_
 rintro _ w ⟨b_c, N_c, rfl, hO_c, hC⟩ a hA
 replace hH := HS.call0 hH hC
 clear hC
 refine asg hA fun a hA => ?_
 refine wpList_nil ?_
 refine hK5 _ _ ?_
 clear hK5
 replace hA := hA.s4 4 3 2 0
 refine wp_seq_k fun K6 hK6 => ?_
 refine wp_region_lit ?_
 refine mv hA fun a hA => ?_
 refine sq hA (q_nilCheck rfl) rfl fun a hA => ?_
 refine sq hA (q_fld 9 Tryd.underlying127 rfl rfl ti3 rfl) rfl fun a hA => ?_
 refine sq hA (q_loadRO (hN.later hH) hmb Tryd.underlying3 rfl rfl (hc_9 hws _ _)) rfl fun a hA => ?_
 refine sl hA (lo_call fn85 rfl (pad_any m.length (by omega))) rfl ?_
 rintro _ w ⟨v_t18, N_t18, rfl, hO_t18, hC⟩ a hA
 replace hH := HS.call0 hH hC
 clear hC
 refine mv hA fun a hA => ?_
 refine sq hA (q_extract rfl rfl) rfl fun a hA => ?_
 refine sq hA (q_extract rfl rfl) rfl fun a hA => ?_
 refine asg hA fun a hA => ?_
 refine asg hA fun a hA => ?_
 refine wpList_nil ?_
 refine hK6 _ _ ?_
 clear hK6
 replace hA := hA.s4 5 4 3 2
 refine wp_seq_k fun K7 hK7 => ?_
 refine wp_region_lit ?_
 refine mv hA fun a hA => ?_
 refine mv hA fun a hA => ?_
 replace hH := hH.pick [1, 0, 2, 3] (Hs' := [_, _, _, _]) rfl
 refine sl hA (lo_call fn76 rfl (write_any (hg.mono hH NG.nil) (doms [N_c]) (hg.ng NG.nil hH) b_c (m) (padB m.length) _ N_c hO_c (Own.rdM hO_t18 (Ns1 := [_]) hH 0 rfl) (by first | (simp; done) | (simp; omega) | omega) (HS.handed (Ns1 := [_]) hH))) rfl ?_
 rintro _ w ⟨rfl, N_c, hO_c, hC⟩ a hA
 replace hH := HS.call (Ns1 := [_]) hH hC
 clear hC
 refine wpList_nil ?_
 refine hK7 _ _ ?_
 clear hK7
 replace hA := hA.s3 4 3 2
 refine wp_seq_k fun K8 hK8 => ?_
 refine wp_seq_k fun K9 hK9 => ?_
 refine wp_region_lit ?_
 refine mv hA fun a hA => ?_
 refine wpList_nil ?_
 refine hK9 _ _ ?_
 clear hK9
 refine wp_block ?_
 obtain ⟨v_c, N_c', hNc, hO_c'⟩ := hO_c
 rw [hNc] at hH
 replace hH := HS.split hH
 replace hH := hH.pick [3, 0, 1, 2, 4] (Hs' := [_, _, _, _, _]) rfl
 replace hH := HS.fold [_, _] [_, _, _] hH
 obtain ⟨NR10, hNR10, hH⟩ := hH
 refine wp_loop_ghost (fun gm a w => ∃ i : Nat, At 44 [(24, I i), (4, (.pointer (some ⟨b_c, 0, none⟩))), (3, (.pointer (some ⟨b_t3, 0, none⟩))), (2, (.pointer (some ⟨b_t2, 0, none⟩)))] a ∧ HS [] w0 w ([[(b_t3, Obj.cells ((digTo (shaW m) i).map B8).toArray 94 (0, 0))], [(b_c, Obj.cells (hc (shaW m) v_c (m ++ padB m.length).length).toArray 127 (0, 0))], NR10]) ∧ (i ≤ 32) ∧ gm = 32 - i) (32 - (0)) ⟨0, hA.sub ⟨rfl, rfl, rfl, rfl, trivial⟩, hH, by omega, rfl⟩ ?_
 clear hA hH
 rintro gm a w ⟨i, hA, hH, hi, rfl⟩
 have ha3 := and3 i
 refine wp_seq_k fun K11 hK11 => ?_
 refine wp_region_lit ?_
 refine sq hA (q_lssI (n := 32) rfl rfl) rfl fun a hA => ?_
 refine wpList_nil ?_
 refine hK11 _ _ ?_
 clear hK11
 refine wp_seq_k fun K12 hK12 => ?_
 refine cond_d hA rfl (fun hc25 => ?_) (fun hc25 => ?_)
 ·skip
  refine wp_skip ?_
  refine hK12 _ _ ?_
  clear hK12
  refine wp_seq_k fun K13 hK13 => ?_
  refine wp_block ?_
  refine wp_seq_k fun K14 hK14 => ?_
  refine wp_region_lit ?_
  refine mv hA fun a hA => ?_
  refine asg hA fun a hA => ?_
  refine wpList_nil ?_
  refine hK14 _ _ ?_
  clear hK14
  refine wp_region_lit ?_
  refine mv hA fun a hA => ?_
  refine mv hA fun a hA => ?_
  refine mv hA fun a hA => ?_
  refine sq hA (q_shrI (n := 2) 4 rfl rfl (by decide) (by decide) (by omega)) rfl fun a hA => ?_
  refine sq hA (q_nilCheck rfl) rfl fun a hA => ?_
  refine sq hA (q_fld 0 Tryd.underlying127 rfl rfl ti120 rfl) rfl fun a hA => ?_
  refine sq hA (q_idxA1 (i / 4) Tryd.underlying120 ti119 rfl rfl (by first | omega | rfl) (by first | omega | (simp; done) | (simp; omega) | (rw [List.length_map]; assumption) | assumption | rfl | (simp [*]; done) | (simp [*]; omega))) rfl fun a hA => ?_
  refine sq hA (q_loadB hH 1 rfl (List.mem_singleton.2 rfl) Tryd.underlying119 rfl rfl (hc_w (shaW_length m) _ _ (by omega))) rfl fun a hA => ?_
  refine mv hA fun a hA => ?_
  refine sq hA (q_andI (b := 3) rfl rfl (by omega) (by omega)) rfl fun a hA => ?_
  refine sq hA (q_shlI (n := 3) 8 rfl rfl (by decide) (by decide) (by omega)) rfl fun a hA => ?_
  refine sq hA (q_subI (m := 24) rfl rfl (by omega)) rfl fun a hA => ?_
  rw [show (24 - ((i &&& 3 : Nat) : Int) * 8) = ((24 - 8 * (i % 4) : Nat) : Int) by rw [ha3]; omega] at hA
  refine sq hA (q_shr32 (n := 24 - 8 * (i % 4)) rfl rfl) rfl fun a hA => ?_
  refine sq hA (q_cv32_8 Tryd.underlying119 Tryd.underlying5 rfl) rfl fun a hA => ?_
  refine sq hA (q_idxA1 (i) Tryd.underlying94 ti5 rfl rfl (by first | omega | rfl) (by first | omega | (simp; done) | (simp; omega) | (rw [List.length_map]; assumption) | assumption | rfl | (simp [*]; done) | (simp [*]; omega))) rfl fun a hA => ?_
  refine s0 hA (lo_store1m hH ti5 rfl rfl (by rw [digTo_length _ (by omega)]; omega) rfl) ?_
  clear hH; rintro _ w hH
  refine wpList_nil ?_
  refine block_normal ?_
  refine hK13 _ _ ?_
  clear hK13
  refine wp_region_lit ?_
  refine sq hA (q_addI (n := 1) rfl rfl (by omega)) rfl fun a hA => ?_
  refine mv hA fun a hA => ?_
  refine wpList_nil ?_
  exact ⟨_, by omega, i + 1, hA.sub ⟨rfl, rfl, rfl, rfl, trivial⟩, (by rw [digTo_set _ (by omega)] at hH; exact hH), by omega, rfl⟩
 ·skip
  obtain rfl : i = 32 := by omega
  rw [digTo_end] at hH
  refine wp_exit ?_
  refine then_exit ?_
  replace hH := HS.unfold [_, _] hNR10 hH
  refine then_exit ?_
  refine exit_here ?_
  refine hK8 _ _ ?_
  clear hK8
  replace hA := hA.s2 3 2
  refine wp_seq_k fun K15 hK15 => ?_
  refine wp_region_lit ?_
  refine sq hA (q_loadW hH 0 rfl Tryd.underlying94 rfl ti94 rfl (by rfl)) rfl fun a hA => ?_
  replace hH := hH.pick [4, 0, 1, 2, 3] (Hs' := [_, _, _, _, _]) rfl
  refine s0 hA (lo_storeAm hH ti94 rfl rfl (by first | omega | (simp; done) | (simp; omega) | (rw [List.length_map]; assumption) | assumption | rfl | (simp [*]; done) | (simp [*]; omega)) (by first | omega | (simp; done) | (simp; omega) | (rw [List.length_map]; assumption) | assumption | rfl | (simp [*]; done) | (simp [*]; omega)) (one_B8 _)) ?_
  clear hH; rintro _ w hH
  refine wpList_nil ?_
  refine hK15 _ _ ?_
  clear hK15
  replace hA := hA.s1 2
  refine wp_ret ?_
  refine post_ret hA (res_c rfl hA rfl (resW hH 0 rfl Tryd.underlying94 rfl ti94 (by first | assumption | (rw [List.length_map]; assumption) | rfl | exact sha_length _ | (simp; done) | (simp [*]; done) | omega))) ?_
  replace hH := hH.pick [] (Hs' := []) rfl
  exact ⟨_, rfl, rfl, hH⟩

theorem sum_any {w0 : World} {lv : Nat} (hg : Gl lv w0) (v : Value) (l : Bs) (hr : By [] w0 v l) (hl : l.length ≤ 1048576) :
    Calls Tryd.prog 56 #[v] w0 (Ret fun r w' => r = .agg ((sha l).map B8).toArray ∧ HS [] w0 w' []) := by
 have hH := HS.start w0
 refine start (n := 10) (E := [(0, _)]) Tryd.func56 rfl rfl rfl (args_look rfl) ?_
 intro a hA
 refine wp_seq_k fun K1 hK1 => ?_
 refine wp_region_lit ?_
 refine sl hA (lo_allocA hH ti94) rfl ?_
 clear hH; rintro _ w ⟨b_t2, rfl, hH⟩ a hA
 refine wpList_nil ?_
 refine hK1 _ _ ?_
 clear hK1
 refine wp_seq_k fun K2 hK2 => ?_
 refine wp_region_lit ?_
 refine sl hA (lo_call fn75 rfl (new_any (hg.mono0 hH))) rfl ?_
 rintro _ w ⟨b_c, N_c, rfl, hO_c, hC⟩ a hA
 replace hH := HS.call0 hH hC
 clear hC
 refine asg hA fun a hA => ?_
 refine wpList_nil ?_
 refine hK2 _ _ ?_
 clear hK2
 replace hA := hA.s3 3 2 0
 refine wp_seq_k fun K3 hK3 => ?_
 refine wp_region_lit ?_
 refine mv hA fun a hA => ?_
 refine mv hA fun a hA => ?_
 refine sl hA (lo_call fn76 rfl (write_any (hg.mono hH NG.nil) (doms [N_c]) (hg.ng NG.nil hH) b_c ([]) (l) _ N_c hO_c (hH.rdM (Ns1 := [_]) hr) (by first | (simp; done) | (simp; omega) | omega) (HS.handed (Ns1 := [_]) hH))) rfl ?_
 rintro _ w ⟨rfl, N_c, hO_c, hC⟩ a hA
 replace hH := HS.call (Ns1 := [_]) hH hC
 clear hC
 refine wpList_nil ?_
 refine hK3 _ _ ?_
 clear hK3
 replace hA := hA.s2 3 2
 refine wp_seq_k fun K4 hK4 => ?_
 refine wp_region_lit ?_
 refine mv hA fun a hA => ?_
 refine sl hA (lo_call fn77 rfl (hsum_any (hg.mono0 hH) b_c ([] ++ l) N_c hO_c (RO.of hH 0 rfl) (by simpa using hl))) rfl ?_
 rintro _ w ⟨rfl, hC⟩ a hA
 replace hH := HS.call0 hH hC
 clear hC
 replace hH := hH.pick [1, 0] (Hs' := [_, _]) rfl
 refine s0 hA (lo_storeAm hH ti94 rfl rfl (by first | rfl | (simp; done)) (by first | rfl | (simp; done)) (one_B8 _)) ?_
 clear hH; rintro _ w hH
 refine wpList_nil ?_
 refine hK4 _ _ ?_
 clear hK4
 replace hA := hA.s1 2
 refine wp_ret ?_
 refine post_ret hA (res_c rfl hA rfl (resW hH 0 rfl Tryd.underlying94 rfl ti94 (by first | assumption | (rw [List.length_map]; assumption) | rfl | exact sha_length _ | (simp; done) | (simp [*]; done) | omega))) ?_
 replace hH := hH.pick [] (Hs' := []) rfl
 exact ⟨_, rfl, rfl, hH⟩

end Go.Proofs.YthhdilafnfcpbaaDoor
