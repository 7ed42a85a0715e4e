/- Layer 7 (keys): signatures compared, copied, verified. -/
import Derived.Test.YtnnkgdijaekcfaaDoorHa
import Derived.Test.YtnnkgdijaekcfaaDoorCb
import Derived.Test.YtnnkgdijaekcfaaDoorMzc
namespace Go.Proofs.YtnnkgdijaekcfaaDoor
open Go
set_option linter.unusedVariables false
set_option linter.unusedSimpArgs false
set_option maxRecDepth 100000

theorem climb_tot {w0 : World} {lv : Nat} (hg : Gl lv w0) (p : Bs) (hp : p.length = 32) (i : Int) (v : Value) (ds : List Bs) (hd : Dg ds) (hr : RdD [] w0 v ds) : Calls Tryd.prog 103 #[(.agg ((p).map B8).toArray), I i, v] w0 (Ret fun r w' => r = .tuple #[.agg ((clT p i ds).1.map B8).toArray, I (clT p i ds).2] ∧ HS [] w0 w' []) := by
  by_cases h : ds.length ≤ 10 ∧ 0 ≤ i ∧ i < ((2 ^ ds.length : Nat) : Int)
  · obtain ⟨m, rfl⟩ : ∃ m : Nat, i = m := ⟨i.toNat, by omega⟩
    rw [clT_ok h.1 (by exact_mod_cast h.2.2)]
    exact climb_any hg p m v ds hp hd hr h.1 (by exact_mod_cast h.2.2)
  · rw [clT_bad h]
    exact climb_bad p i v ds hp hd hr (by
      by_cases h1 : 10 < ds.length
      · exact .inl h1
      · by_cases h2 : i < 0
        · exact .inr (.inl h2)
        · refine .inr (.inr ?_)
          apply Classical.byContradiction
          intro h3
          exact h ⟨by omega, by omega, by push_cast; omega⟩)
theorem verify7_any {w0 : World} {lv : Nat} (hg : Gl lv w0) (pub : Bs) (hpub : pub.length = 32) (n h : Int) (u : Value) (l : Bs) (hu : By [] w0 u l) (hl : l.length ≤ 1048576) (ix : Int) (ua xa : Value) (A B : List Bs) (hdA : Dg A) (hdB : Dg B) (hua : RdD [] w0 ua A) (hxa : RdD [] w0 xa B) (hlA : A.length ≤ 1048576) (hlB : B.length ≤ 1048576) :
    Calls Tryd.prog 61 #[(.agg ((pub).map B8).toArray), I n, I h, u, (.agg #[I ix, ua, xa])] w0 (Ret fun r w' => r = .bool (decide (V7 pub n h l ix A B)) ∧ HS [] w0 w' []) := by
 have hH := HS.start w0
 refine start (n := 51) (E := [(0, _), (1, _), (2, _), (3, _), (4, _)]) Tryd.func61 rfl rfl rfl (args_look rfl) ?_
 intro a hA
 have hrl := recT_length n l A
 have hcl := clT_length hrl ix B
 refine wp_seq_k fun K1 hK1 => ?_
 refine wp_region_lit ?_
 refine sl hA (lo_boxA hH rfl) rfl ?_
 clear hH; rintro _ w ⟨b_t5, rfl, hH⟩ a hA
 refine sl hA (lo_boxA hH rfl) rfl ?_
 clear hH; rintro _ w ⟨b_t9, rfl, hH⟩ a hA
 refine asg hA fun a hA => ?_
 refine wpList_nil ?_
 refine hK1 _ _ ?_
 clear hK1
 replace hA := hA.s6 10 9 5 1 2 3
 refine wp_seq_k fun K2 hK2 => ?_
 refine wp_seq_k fun K3 hK3 => ?_
 refine wp_region_lit ?_
 refine mv hA fun a hA => ?_
 refine mv hA fun a hA => ?_
 refine sl hA (lo_call fn64 rfl (right7_any _ _)) rfl ?_
 rintro _ w ⟨rfl, hC⟩ a hA
 replace hH := HS.call0 hH hC
 clear hC
 refine hA.spl (fun hs16 hA => ?_) (fun hs16 hA => ?_)
 ·skip
  refine sq hA (q_not rfl) rfl fun a hA => ?_
  refine mv hA fun a hA => ?_
  refine gq hA rfl rfl (q_fld 2 Tryd.underlying27 rfl rfl ti25 rfl) rfl fun a hA => ?_
  refine gq hA rfl rfl (q_loadB hH 0 rfl (List.mem_singleton.2 rfl) Tryd.underlying25 rfl rfl rfl) rfl fun a hA => ?_
  refine gq hA rfl rfl (q_len Tryd.underlying25 rfl (Rd.shp hxa)) rfl fun a hA => ?_
  refine gq hA rfl rfl (q_move rfl) rfl fun a hA => ?_
  refine gq hA rfl rfl (q_neqI rfl rfl) rfl fun a hA => ?_
  refine sq hA (q_pick_f rfl rfl) rfl fun a hA => ?_
  refine wpList_nil ?_
  refine hK3 _ _ ?_
  clear hK3
  replace hA := hA.s6 24 10 9 5 1 3
  refine cond_d hA rfl (fun hc24 => ?_) (fun hc24 => ?_)
  ·skip
   refine wp_seq_k fun K4 hK4 => ?_
   refine wp_region_lit ?_
   refine asg hA fun a hA => ?_
   refine wpList_nil ?_
   refine hK4 _ _ ?_
   clear hK4
   replace hA := hA.s5 10 9 5 1 3
   refine wp_ret ?_
   refine then_ret ?_
   refine post_ret hA (res_1 rfl hA rfl) ?_
   replace hH := hH.pick [] (Hs' := []) rfl
   exact ⟨_, rfl, by congr 1; symm; first | exact decide_eq_false (fun hV => by obtain ⟨h1, h2, h3, h4, h5⟩ := hV; first | contradiction | omega) | exact decide_eq_decide.2 ⟨fun hV => hV.2.2.2.2, fun hV => ⟨by assumption, by omega, by omega, by omega, hV⟩⟩, hH⟩
  ·skip
   refine wp_skip ?_
   refine hK2 _ _ ?_
   clear hK2
   replace hA := hA.s5 10 9 5 1 3
   refine wp_seq_k fun K5 hK5 => ?_
   refine wp_region_lit ?_
   refine mv hA fun a hA => ?_
   refine mv hA fun a hA => ?_
   refine sq hA (q_fld 1 Tryd.underlying27 rfl rfl ti25 rfl) rfl fun a hA => ?_
   refine sq hA (q_loadB hH 0 rfl (List.mem_singleton.2 rfl) Tryd.underlying25 rfl rfl rfl) rfl fun a hA => ?_
   refine sl hA (lo_call fn102 rfl (recover_tot (hg.mono0 hH) _ _ _ (hH.rd hu) (by first | omega | (simp; done) | (simp; omega)) _ _ (by assumption) (hH.rd hua) (by first | omega | (simp; done) | (simp; omega)))) rfl ?_
   rintro _ w ⟨rfl, hC⟩ a hA
   replace hH := HS.call0 hH hC
   clear hC
   refine mv hA fun a hA => ?_
   refine sq hA (q_extract rfl rfl) rfl fun a hA => ?_
   refine sq hA (q_extract rfl rfl) rfl fun a hA => ?_
   refine sl hA (lo_allocA hH ti24) rfl ?_
   clear hH; rintro _ w ⟨b_t11, rfl, hH⟩ a hA
   refine s0 hA (lo_storeAm hH ti24 rfl rfl (by first | assumption | (rw [List.length_map]; assumption) | rfl | exact sha_length _ | (simp; done) | (simp [*]; done) | omega) (by first | assumption | (rw [List.length_map]; assumption) | rfl | exact sha_length _ | (simp; done) | (simp [*]; done) | omega) (one_B8 _)) ?_
   clear hH; rintro _ w hH
   refine asg hA fun a hA => ?_
   refine wpList_nil ?_
   refine hK5 _ _ ?_
   clear hK5
   replace hA := hA.s5 12 11 10 9 5
   refine wp_seq_k fun K6 hK6 => ?_
   refine wp_seq_k fun K7 hK7 => ?_
   refine wp_region_lit ?_
   refine mv hA fun a hA => ?_
   refine sq hA (q_neqI (n := 0) rfl rfl) rfl fun a hA => ?_
   refine wpList_nil ?_
   refine hK7 _ _ ?_
   clear hK7
   replace hA := hA.s6 34 12 11 10 9 5
   refine cond_d hA rfl (fun hc34 => ?_) (fun hc34 => ?_)
   ·skip
    refine wp_seq_k fun K8 hK8 => ?_
    refine wp_region_lit ?_
    refine asg hA fun a hA => ?_
    refine wpList_nil ?_
    refine hK8 _ _ ?_
    clear hK8
    replace hA := hA.s5 10 12 11 9 5
    refine wp_ret ?_
    refine then_ret ?_
    refine post_ret hA (res_1 rfl hA rfl) ?_
    replace hH := hH.pick [] (Hs' := []) rfl
    exact ⟨_, rfl, by congr 1; symm; first | exact decide_eq_false (fun hV => by obtain ⟨h1, h2, h3, h4, h5⟩ := hV; first | contradiction | omega) | exact decide_eq_decide.2 ⟨fun hV => hV.2.2.2.2, fun hV => ⟨by assumption, by omega, by omega, by omega, hV⟩⟩, hH⟩
   ·skip
    refine wp_skip ?_
    refine hK6 _ _ ?_
    clear hK6
    replace hA := hA.s5 12 11 10 9 5
    refine wp_seq_k fun K9 hK9 => ?_
    refine wp_region_lit ?_
    refine sq hA (q_loadW hH 0 rfl Tryd.underlying24 rfl ti24 rfl (by first | omega | (simp; done) | (simp; omega) | (rw [List.length_map]; assumption) | assumption | rfl | (simp [*]; done) | (simp [*]; omega))) rfl fun a hA => ?_
    refine sq hA (q_fld 0 Tryd.underlying27 rfl rfl ti3 rfl) rfl fun a hA => ?_
    refine sq hA (q_loadB hH 1 rfl (List.mem_singleton.2 rfl) Tryd.underlying3 rfl rfl rfl) rfl fun a hA => ?_
    refine sq hA (q_fld 2 Tryd.underlying27 rfl rfl ti25 rfl) rfl fun a hA => ?_
    refine sq hA (q_loadB hH 1 rfl (List.mem_singleton.2 rfl) Tryd.underlying25 rfl rfl rfl) rfl fun a hA => ?_
    refine sl hA (lo_call fn103 rfl (climb_tot (hg.mono0 hH) _ (by first | assumption | (rw [List.length_map]; assumption) | rfl | exact sha_length _ | (simp; done) | (simp [*]; done) | omega) _ _ _ (by assumption) (hH.rd hxa))) rfl ?_
    rintro _ w ⟨rfl, hC⟩ a hA
    replace hH := HS.call0 hH hC
    clear hC
    refine mv hA fun a hA => ?_
    refine sq hA (q_extract rfl rfl) rfl fun a hA => ?_
    refine sq hA (q_extract rfl rfl) rfl fun a hA => ?_
    refine sl hA (lo_allocA hH ti24) rfl ?_
    clear hH; rintro _ w ⟨b_t13, rfl, hH⟩ a hA
    refine s0 hA (lo_storeAm hH ti24 rfl rfl (by first | assumption | (rw [List.length_map]; assumption) | rfl | exact sha_length _ | (simp; done) | (simp [*]; done) | omega) (by first | assumption | (rw [List.length_map]; assumption) | rfl | exact sha_length _ | (simp; done) | (simp [*]; done) | omega) (one_B8 _)) ?_
    clear hH; rintro _ w hH
    refine asg hA fun a hA => ?_
    refine wpList_nil ?_
    refine hK9 _ _ ?_
    clear hK9
    replace hA := hA.s4 12 13 10 5
    refine wp_seq_k fun K10 hK10 => ?_
    refine wp_region_lit ?_
    refine mv hA fun a hA => ?_
    refine sq hA (q_eqlI (n := 0) rfl rfl) rfl fun a hA => ?_
    refine hA.spl (fun hs45 hA => ?_) (fun hs45 hA => ?_)
    ·skip
     refine mv hA fun a hA => ?_
     refine gq hA rfl rfl (q_loadW hH 0 rfl Tryd.underlying24 rfl ti24 rfl (by first | omega | (simp; done) | (simp; omega) | (rw [List.length_map]; assumption) | assumption | rfl | (simp [*]; done) | (simp [*]; omega))) rfl fun a hA => ?_
     refine gq hA rfl rfl (q_loadW hH 3 rfl Tryd.underlying24 rfl ti24 rfl (by first | omega | (simp; done) | (simp; omega) | (rw [List.length_map]; assumption) | assumption | rfl | (simp [*]; done) | (simp [*]; omega))) rfl fun a hA => ?_
     refine gq hA rfl rfl (q_eqlA8 eqa24 rfl rfl rfl rfl (by first | assumption | (rw [List.length_map]; assumption) | rfl | exact sha_length _ | (simp; done) | (simp [*]; done) | omega) (by first | assumption | (rw [List.length_map]; assumption) | rfl | exact sha_length _ | (simp; done) | (simp [*]; done) | omega)) rfl fun a hA => ?_
     refine sq hA (q_pick_t rfl rfl) rfl fun a hA => ?_
     refine asg hA fun a hA => ?_
     refine wpList_nil ?_
     refine hK10 _ _ ?_
     clear hK10
     replace hA := hA.s1 10
     refine wp_ret ?_
     refine post_ret hA (res_1 rfl hA rfl) ?_
     replace hH := hH.pick [] (Hs' := []) rfl
     exact ⟨_, rfl, by congr 1; symm; first | exact decide_eq_false (fun hV => by obtain ⟨h1, h2, h3, h4, h5⟩ := hV; first | contradiction | omega) | exact decide_eq_decide.2 ⟨fun hV => hV.2.2.2.2, fun hV => ⟨by assumption, by omega, by omega, by omega, hV⟩⟩, hH⟩
    ·skip
     refine mv hA fun a hA => ?_
     refine gs hA rfl rfl rfl rfl fun a hA => ?_
     refine gs hA rfl rfl rfl rfl fun a hA => ?_
     refine gs hA rfl rfl rfl rfl fun a hA => ?_
     refine sq hA (q_pick_f rfl rfl) rfl fun a hA => ?_
     refine asg hA fun a hA => ?_
     refine wpList_nil ?_
     refine hK10 _ _ ?_
     clear hK10
     replace hA := hA.s1 10
     refine wp_ret ?_
     refine post_ret hA (res_1 rfl hA rfl) ?_
     replace hH := hH.pick [] (Hs' := []) rfl
     exact ⟨_, rfl, by congr 1; symm; first | exact decide_eq_false (fun hV => by obtain ⟨h1, h2, h3, h4, h5⟩ := hV; first | contradiction | omega) | exact decide_eq_decide.2 ⟨fun hV => hV.2.2.2.2, fun hV => ⟨by assumption, by omega, by omega, by omega, hV⟩⟩, hH⟩
 ·skip
  refine sq hA (q_not rfl) rfl fun a hA => ?_
  refine mv hA fun a hA => ?_
  refine gs hA rfl rfl rfl rfl fun a hA => ?_
  refine gs hA rfl rfl rfl rfl fun a hA => ?_
  refine gs hA rfl rfl rfl rfl fun a hA => ?_
  refine gs hA rfl rfl rfl rfl fun a hA => ?_
  refine gs hA rfl rfl rfl rfl fun a hA => ?_
  refine sq hA (q_pick_t rfl rfl) rfl fun a hA => ?_
  refine wpList_nil ?_
  refine hK3 _ _ ?_
  clear hK3
  replace hA := hA.s6 24 10 9 5 1 3
  refine cond_t hA rfl ?_
  refine wp_seq_k fun K11 hK11 => ?_
  refine wp_region_lit ?_
  refine asg hA fun a hA => ?_
  refine wpList_nil ?_
  refine hK11 _ _ ?_
  clear hK11
  replace hA := hA.s5 10 9 5 1 3
  refine wp_ret ?_
  refine then_ret ?_
  refine post_ret hA (res_1 rfl hA rfl) ?_
  replace hH := hH.pick [] (Hs' := []) rfl
  exact ⟨_, rfl, by congr 1; symm; first | exact decide_eq_false (fun hV => by obtain ⟨h1, h2, h3, h4, h5⟩ := hV; first | contradiction | omega) | exact decide_eq_decide.2 ⟨fun hV => hV.2.2.2.2, fun hV => ⟨by assumption, by omega, by omega, by omega, hV⟩⟩, hH⟩

end Go.Proofs.YtnnkgdijaekcfaaDoor
