/- Layer 7 (keys): the law KeysMakes. -/
import Derived.Test.YtipjpbfledddaaaDoorHf
import Derived.Test.YtipjpbfledddaaaDoorHh
import Derived.Test.YtipjpbfledddaaaDoorMn
namespace Go.Proofs.YtipjpbfledddaaaDoor
open Go
set_option linter.unusedVariables false
set_option linter.unusedSimpArgs false
set_option maxRecDepth 100000

set_option maxHeartbeats 1000000 in
theorem keysMakes_any {w0 : World} (hg : Gl 2 w0) (s : Bs) (hsd : s.length = 32) (n h : Int) :
    Calls Tryd.prog 4 #[(.agg ((s).map B8).toArray), I n, I h] w0 (Ret fun r w' => r = .bool true ∧ HS [] w0 w' []) := by
  have hH := HS.start w0
  refine start (n := 63) (E := [(0, _), (1, _), (2, _)]) Tryd.func4 rfl rfl rfl (args_look rfl) ?_
  intro a hA
  refine wp_seq_k fun K1 hK1 => ?_
  refine wp_region_lit ?_
  refine sl hA (lo_boxA hH rfl) rfl ?_
  clear hH; rintro _ w ⟨b_t3, rfl, hH⟩ a hA
  refine sq hA (q_assign rfl) rfl fun a hA => ?_
  refine wpList_nil ?_
  refine hK1 _ _ ?_
  clear hK1
  replace hA := hA.sub (E' := [(6, _), (3, _), (1, _), (2, _)]) ⟨rfl, rfl, rfl, rfl, trivial⟩
  refine wp_seq_k fun K2 hK2 => ?_
  refine wp_seq_k fun K3 hK3 => ?_
  refine wp_region_lit ?_
  refine sq hA (q_move rfl) rfl fun a hA => ?_
  refine sq hA (q_move rfl) rfl fun a hA => ?_
  refine sl hA (lo_call fn11 rfl (great7_any _ _)) rfl ?_
  rintro _ w ⟨rfl, hC⟩ a hA
  replace hH := HS.call0 hH hC
  clear hC
  refine hA.spl (fun hs12 hA => ?_) (fun hs12 hA => ?_)
  · skip
    refine wpList_nil ?_
    refine hK3 _ _ ?_
    clear hK3
    replace hA := hA.sub (E' := [(12, _), (6, _), (3, _), (1, _), (2, _)]) ⟨rfl, rfl, rfl, rfl, rfl, trivial⟩
    refine cond_t hA rfl ?_
    refine wp_seq_k fun K4 hK4 => ?_
    refine wp_region_lit ?_
    refine sl hA (lo_call fn12 rfl (awake7_any (hg.mono0 hH))) rfl ?_
    rintro _ w ⟨rfl, hC⟩ a hA
    replace hH := HS.call0 hH hC
    clear hC
    refine sq hA (q_assign rfl) rfl fun a hA => ?_
    refine wpList_nil ?_
    refine hK4 _ _ ?_
    clear hK4
    replace hA := hA.sub (E' := [(6, _), (3, _), (1, _), (2, _)]) ⟨rfl, rfl, rfl, rfl, trivial⟩
    refine wp_ret ?_
    refine then_ret ?_
    refine post_ret hA (res_1 rfl hA rfl) ?_
    replace hH := hH.pick [] (Hs' := []) rfl
    exact ⟨_, rfl, rfl, hH⟩
  · skip
    refine wpList_nil ?_
    refine hK3 _ _ ?_
    clear hK3
    replace hA := hA.sub (E' := [(12, _), (6, _), (3, _), (1, _), (2, _)]) ⟨rfl, rfl, rfl, rfl, rfl, trivial⟩
    refine cond_f hA rfl ?_
    refine wp_skip ?_
    refine hK2 _ _ ?_
    clear hK2
    replace hA := hA.sub (E' := [(6, _), (3, _), (1, _), (2, _)]) ⟨rfl, rfl, rfl, rfl, trivial⟩
    refine wp_seq_k fun K5 hK5 => ?_
    refine wp_region_lit ?_
    refine sq hA (q_loadW hH 0 rfl Tryd.underlying23 rfl ti23 rfl (by first | omega | (simp; done) | (simp; omega) | (rw [List.length_map]; assumption) | assumption | rfl | (simp [*]; done) | (simp [*]; omega))) rfl fun a hA => ?_
    rcases Classical.em (R7 n h) with hR | hR
    · skip
      obtain ⟨n, rfl⟩ : ∃ m : Nat, n = m := ⟨n.toNat, by unfold R7 R5 at *; omega⟩
      obtain ⟨h, rfl⟩ : ∃ m : Nat, h = m := ⟨h.toNat, by unfold R7 R5 at *; omega⟩
      have hn5 := hR.1
      have hn1 := hR.1.1
      have hn2 := hR.1.2
      have hh6 : h ≤ 6 := by have := hR.2.2; omega
      have h64 := pow_le64 hh6
      have hp0 : 0 < 2 ^ h := Nat.pow_pos (by decide)
      have hPl := pubK_length s n h
      refine sq hA (q_move rfl) rfl fun a hA => ?_
      refine sq hA (q_move rfl) rfl fun a hA => ?_
      refine sl hA (lo_call fn17 rfl (new7_any (hg.mono0 hH) s hsd n h hR)) rfl ?_
      rintro _ w ⟨b_k, b_s, v_l, N_l, rfl, hO_l, hC⟩ a hA
      replace hH := HS.call0 hH hC
      clear hC
      have hshp : Shp v_l (2 ^ (h)) := by have := Own.shp hO_l; rwa [leavesK_length] at this
      refine sq hA (q_move rfl) rfl fun a hA => ?_
      refine sq hA (q_extract rfl rfl) rfl fun a hA => ?_
      refine sq hA (q_extract rfl rfl) rfl fun a hA => ?_
      refine sq hA (q_assign rfl) rfl fun a hA => ?_
      refine sq hA (q_assign rfl) rfl fun a hA => ?_
      refine wpList_nil ?_
      refine hK5 _ _ ?_
      clear hK5
      replace hA := hA.sub (E' := [(8, _), (7, _), (6, _), (3, _), (1, _), (2, _)]) ⟨rfl, rfl, rfl, rfl, rfl, rfl, trivial⟩
      refine wp_seq_k fun K6 hK6 => ?_
      refine wp_seq_k fun K7 hK7 => ?_
      refine wp_region_lit ?_
      refine sq hA (q_move rfl) rfl fun a hA => ?_
      refine sq hA (q_move rfl) rfl fun a hA => ?_
      refine sl hA (lo_call fn18 rfl (refright7_any _ _)) rfl ?_
      rintro _ w ⟨rfl, hC⟩ a hA
      replace hH := HS.call0 hH hC
      clear hC
      replace hA := hA.decT hR
      refine sq hA (q_not rfl) rfl fun a hA => ?_
      refine wpList_nil ?_
      refine hK7 _ _ ?_
      clear hK7
      replace hA := hA.sub (E' := [(24, _), (8, _), (7, _), (6, _), (3, _), (1, _), (2, _)]) ⟨rfl, rfl, rfl, rfl, rfl, rfl, rfl, trivial⟩
      refine cond_f hA rfl ?_
      refine wp_skip ?_
      refine hK6 _ _ ?_
      clear hK6
      replace hA := hA.sub (E' := [(8, _), (7, _), (6, _), (3, _), (1, _), (2, _)]) ⟨rfl, rfl, rfl, rfl, rfl, rfl, trivial⟩
      refine wp_seq_k fun K8 hK8 => ?_
      refine wp_region_lit ?_
      refine sq hA (q_loadW hH 3 rfl Tryd.underlying23 rfl ti23 rfl (by first | omega | (simp; done) | (simp; omega) | (rw [List.length_map]; assumption) | assumption | rfl | (simp [*]; done) | (simp [*]; omega))) rfl fun a hA => ?_
      refine sq hA (q_move rfl) rfl fun a hA => ?_
      refine sq hA (q_move rfl) rfl fun a hA => ?_
      refine sq hA (Runs.eq (q_buildC (css := [s.map B8, [I n], [I h]]) (z := (List.replicate 32 0#8).map B8 ++ [(I 0), (I 0), (I 0)]) (BT.mk (pl := [(0, 32), (32, 1), (33, 1), (34, 1)]) (it := Tryd.t39) (by kernel_rfl) Tryd.underlying39 (by kernel_rfl) (by kernel_rfl)) rfl ⟨rfl, ⟨_, rfl, by simp [hsd], by decide⟩, rfl, ⟨_, rfl, rfl, by decide⟩, rfl, ⟨_, rfl, rfl, by decide⟩, trivial⟩) (putL_rkey hsd n h)) rfl fun a hA => ?_
      refine sl hA (lo_boxA hH rfl) rfl ?_
      clear hH; rintro _ w ⟨b_t38, rfl, hH⟩ a hA
      refine sq hA (q_assign rfl) rfl fun a hA => ?_
      refine wpList_nil ?_
      refine hK8 _ _ ?_
      clear hK8
      replace hA := hA.sub (E' := [(9, _), (8, _), (7, _), (6, _), (2, _)]) ⟨rfl, rfl, rfl, rfl, rfl, trivial⟩
      refine wp_seq_k fun K9 hK9 => ?_
      refine any_go mixed (fun j => !(Nat.beq j 4 || Nat.beq j 6 || Nat.beq j 11 || Nat.beq j 16 || Nat.beq j 22)) hH ?_
      clear hH; intro w hH
      have hS := hH
      change wpK _ _ _ _ _ _ 25 #[false, false, false, false, false, false, false, false, false, false, false, false, false, false, false, false, false, false, false, false, false, false, false, false, false] _ _
      refine apq hA 0 rfl (by kernel_rfl) (by intro c a d v w h; cases d <;> exact h) (fun w => (q_move rfl)) rfl (listed' := #[true, false, false, false, false, false, false, false, false, false, false, false, false, false, false, false, false, false, false, false, false, false, false, false, false]) rfl fun a hA => ?_
      refine apq hA 1 rfl (by kernel_rfl) (by intro c a d v w h; cases d <;> exact h) (fun w => (q_eqlI (n := 0) rfl rfl)) rfl (listed' := #[true, true, false, false, false, false, false, false, false, false, false, false, false, false, false, false, false, false, false, false, false, false, false, false, false]) rfl fun a hA => ?_
      replace hA := hA.decT (by first | rfl | omega | assumption | (simp; done) | (simp [*]; done))
      refine apq hA 2 rfl (by kernel_rfl) (by intro c a d v w h; cases d <;> exact h) (fun w => (q_move rfl)) rfl (listed' := #[true, true, true, false, false, false, false, false, false, false, false, false, false, false, false, false, false, false, false, false, false, false, false, false, false]) rfl fun a hA => ?_
      refine apgq hA 3 rfl (by kernel_rfl) rfl rfl (by intro c a d v w h; cases d <;> exact h) (fun w => (q_move rfl)) rfl (listed' := #[true, true, true, true, false, false, false, false, false, false, false, false, false, false, false, false, false, false, false, false, false, false, false, false, false]) rfl fun a hA => ?_
      refine apgq hA 5 rfl (by kernel_rfl) rfl rfl (by intro c a d v w h; cases d <;> exact h) (fun w => (q_move rfl)) rfl (listed' := #[true, true, true, true, false, true, false, false, false, false, false, false, false, false, false, false, false, false, false, false, false, false, false, false, false]) rfl fun a hA => ?_
      replace hH := hH.pick [1, 0, 2, 3, 4] (Hs' := [_, _, _, _, _]) rfl
      refine agl hA 4 rfl (by kernel_rfl) rfl rfl (lo_call fn19 rfl (public7_any _ _ _ _ hPl _ _ _ hshp (by first | exact Nat.zero_le _ | omega | decide) (by first | assumption | omega | decide) (HS.handed (Ns1 := [_]) hH))) rfl (listed' := #[true, true, true, true, true, true, false, false, false, false, false, false, false, false, false, false, false, false, false, false, false, false, false, false, false]) rfl ?_
      rintro _ w ⟨rfl, hC⟩
      replace hH := HS.call (Ns1 := [_]) hH hC
      clear hC
      refine ⟨fun _ h => absurd h (by decide), ?_⟩
      intro a hA
      replace hH := hH.pick [1, 0, 2, 3, 4] (Hs' := [_, _, _, _, _]) rfl
      refine agl hA 6 rfl (by kernel_rfl) rfl rfl (lo_call fn20 rfl (refpub7_any (hg.mono0 hH) _ (hg.ng NG.nil hH) s hsd n h hR _ (HS.handed (Ns1 := [_]) hH))) rfl (listed' := #[true, true, true, true, true, true, true, false, false, false, false, false, false, false, false, false, false, false, false, false, false, false, false, false, false]) rfl ?_
      rintro _ w ⟨rfl, hC⟩
      replace hH := HS.call (Ns1 := [_]) hH hC
      clear hC
      refine ⟨fun _ h => absurd h (by decide), ?_⟩
      intro a hA
      refine apgq hA 7 rfl (by kernel_rfl) rfl rfl (by intro c a d v w h; cases d <;> exact h) (fun w => (q_eqlA8 eqa23 rfl rfl rfl rfl (by first | assumption | (rw [List.length_map]; assumption) | rfl | exact sha_length _ | (simp; done) | (simp [*]; done) | omega) (by first | assumption | (rw [List.length_map]; assumption) | rfl | exact sha_length _ | (simp; done) | (simp [*]; done) | omega))) rfl (listed' := #[true, true, true, true, true, true, true, true, false, false, false, false, false, false, false, false, false, false, false, false, false, false, false, false, false]) rfl fun a hA => ?_
      refine apq hA 8 rfl (by kernel_rfl) (by intro c a d v w h; cases d <;> exact h) (fun w => (q_pick_t rfl rfl)) rfl (listed' := #[true, true, true, true, true, true, true, true, true, false, false, false, false, false, false, false, false, false, false, false, false, false, false, false, false]) rfl fun a hA => ?_
      replace hA := hA.decT (by first | rfl | omega | assumption | (simp; done) | (simp [*]; done))
      refine apq hA 9 rfl (by kernel_rfl) (by intro c a d v w h; cases d <;> exact h) (fun w => (q_move rfl)) rfl (listed' := #[true, true, true, true, true, true, true, true, true, true, false, false, false, false, false, false, false, false, false, false, false, false, false, false, false]) rfl fun a hA => ?_
      refine apgq hA 10 rfl (by kernel_rfl) rfl rfl (by intro c a d v w h; cases d <;> exact h) (fun w => (q_move rfl)) rfl (listed' := #[true, true, true, true, true, true, true, true, true, true, true, false, false, false, false, false, false, false, false, false, false, false, false, false, false]) rfl fun a hA => ?_
      replace hH := hH.pick [1, 0, 2, 3, 4] (Hs' := [_, _, _, _, _]) rfl
      refine agl hA 11 rfl (by kernel_rfl) rfl rfl (lo_call fn21 rfl (next7_any _ _ _ _ hPl _ _ _ hshp (by first | exact Nat.zero_le _ | omega | decide) (by first | assumption | omega | decide) (HS.handed (Ns1 := [_]) hH))) rfl (listed' := #[true, true, true, true, true, true, true, true, true, true, true, true, false, false, false, false, false, false, false, false, false, false, false, false, false]) rfl ?_
      rintro _ w ⟨rfl, hC⟩
      replace hH := HS.call (Ns1 := [_]) hH hC
      clear hC
      refine ⟨fun _ h => absurd h (by decide), ?_⟩
      intro a hA
      refine apgq hA 12 rfl (by kernel_rfl) rfl rfl (by intro c a d v w h; cases d <;> exact h) (fun w => (q_eqlI (n := 0) rfl rfl)) rfl (listed' := #[true, true, true, true, true, true, true, true, true, true, true, true, true, false, false, false, false, false, false, false, false, false, false, false, false]) rfl fun a hA => ?_
      refine apq hA 13 rfl (by kernel_rfl) (by intro c a d v w h; cases d <;> exact h) (fun w => (q_pick_t rfl rfl)) rfl (listed' := #[true, true, true, true, true, true, true, true, true, true, true, true, true, true, false, false, false, false, false, false, false, false, false, false, false]) rfl fun a hA => ?_
      replace hA := hA.decT (by first | rfl | omega | assumption | (simp; done) | (simp [*]; done))
      refine apq hA 14 rfl (by kernel_rfl) (by intro c a d v w h; cases d <;> exact h) (fun w => (q_move rfl)) rfl (listed' := #[true, true, true, true, true, true, true, true, true, true, true, true, true, true, true, false, false, false, false, false, false, false, false, false, false]) rfl fun a hA => ?_
      refine apgq hA 15 rfl (by kernel_rfl) rfl rfl (by intro c a d v w h; cases d <;> exact h) (fun w => (q_move rfl)) rfl (listed' := #[true, true, true, true, true, true, true, true, true, true, true, true, true, true, true, true, false, false, false, false, false, false, false, false, false]) rfl fun a hA => ?_
      refine apgq hA 17 rfl (by kernel_rfl) rfl rfl (by intro c a d v w h; cases d <;> exact h) (fun w => (q_move rfl)) rfl (listed' := #[true, true, true, true, true, true, true, true, true, true, true, true, true, true, true, true, false, true, false, false, false, false, false, false, false]) rfl fun a hA => ?_
      refine apgq hA 18 rfl (by kernel_rfl) rfl rfl (by intro c a d v w h; cases d <;> exact h) (fun w => (q_shlI (m := 1) (n := h) ((2 ^ h : Nat) : Int) rfl rfl (by omega) (by push_cast; rfl) (by omega))) rfl (listed' := #[true, true, true, true, true, true, true, true, true, true, true, true, true, true, true, true, false, true, true, false, false, false, false, false, false]) rfl fun a hA => ?_
      rw [Int.one_mul] at hA
      refine agl hA 16 rfl (by kernel_rfl) rfl rfl (lo_call fn22 rfl (left7_any _ _ _ _ hPl _ _ _ hshp (by first | exact Nat.zero_le _ | omega | decide) (by first | assumption | omega | decide) (HS.handed (Ns1 := [_]) hH))) rfl (listed' := #[true, true, true, true, true, true, true, true, true, true, true, true, true, true, true, true, true, true, true, false, false, false, false, false, false]) rfl ?_
      rintro _ w ⟨rfl, hC⟩
      replace hH := HS.call (Ns1 := [_]) hH hC
      clear hC
      refine ⟨fun _ h => absurd h (by decide), ?_⟩
      intro a hA
      refine apgq hA 19 rfl (by kernel_rfl) rfl rfl (by intro c a d v w h; cases d <;> exact h) (fun w => (q_eqlI rfl rfl)) rfl (listed' := #[true, true, true, true, true, true, true, true, true, true, true, true, true, true, true, true, true, true, true, true, false, false, false, false, false]) rfl fun a hA => ?_
      refine apq hA 20 rfl (by kernel_rfl) (by intro c a d v w h; cases d <;> exact h) (fun w => (q_pick_t rfl rfl)) rfl (listed' := #[true, true, true, true, true, true, true, true, true, true, true, true, true, true, true, true, true, true, true, true, true, false, false, false, false]) rfl fun a hA => ?_
      replace hA := hA.decT (by simp)
      refine apq hA 21 rfl (by kernel_rfl) (by intro c a d v w h; cases d <;> exact h) (fun w => (q_move rfl)) rfl (listed' := #[true, true, true, true, true, true, true, true, true, true, true, true, true, true, true, true, true, true, true, true, true, true, false, false, false]) rfl fun a hA => ?_
      refine agl hA 22 rfl (by kernel_rfl) rfl rfl (lo_call fn12 rfl (awake7_any (hg.mono0 hH))) rfl (listed' := #[true, true, true, true, true, true, true, true, true, true, true, true, true, true, true, true, true, true, true, true, true, true, true, false, false]) rfl ?_
      rintro _ w ⟨rfl, hC⟩
      replace hH := HS.call0 hH hC
      clear hC
      refine ⟨fun _ h => absurd h (by decide), ?_⟩
      intro a hA
      refine apq hA 23 rfl (by kernel_rfl) (by intro c a d v w h; cases d <;> exact h) (fun w => (q_pick_t rfl rfl)) rfl (listed' := #[true, true, true, true, true, true, true, true, true, true, true, true, true, true, true, true, true, true, true, true, true, true, true, true, false]) rfl fun a hA => ?_
      refine apq hA 24 rfl (by kernel_rfl) (by intro c a d v w h; cases d <;> exact h) (fun w => (q_assign rfl)) rfl (listed' := #[true, true, true, true, true, true, true, true, true, true, true, true, true, true, true, true, true, true, true, true, true, true, true, true, true]) rfl fun a hA => ?_
      refine a_end (by kernel_rfl) ?_ _
      refine hK9 _ _ ?_
      clear hK9
      replace hA := hA.sub (E' := [(6, _)]) ⟨rfl, trivial⟩
      refine wp_ret ?_
      refine post_ret hA (res_1 rfl hA rfl) ?_
      replace hH := hH.pick [] (Hs' := []) rfl
      exact ⟨_, rfl, rfl, hH⟩
    · skip
      refine sq hA (q_move rfl) rfl fun a hA => ?_
      refine sq hA (q_move rfl) rfl fun a hA => ?_
      refine sl hA (lo_call fn17 rfl (new7_bad s hsd n h hR)) rfl ?_
      rintro _ w ⟨rfl, hC⟩ a hA
      replace hH := HS.call0 hH hC
      clear hC
      refine sq hA (q_move rfl) rfl fun a hA => ?_
      refine sq hA (q_extract rfl rfl) rfl fun a hA => ?_
      refine sq hA (q_extract rfl rfl) rfl fun a hA => ?_
      refine sq hA (q_assign rfl) rfl fun a hA => ?_
      refine sq hA (q_assign rfl) rfl fun a hA => ?_
      refine wpList_nil ?_
      refine hK5 _ _ ?_
      clear hK5
      replace hA := hA.sub (E' := [(8, _), (7, _), (6, _), (3, _), (1, _), (2, _)]) ⟨rfl, rfl, rfl, rfl, rfl, rfl, trivial⟩
      refine wp_seq_k fun K10 hK10 => ?_
      refine wp_seq_k fun K11 hK11 => ?_
      refine wp_region_lit ?_
      refine sq hA (q_move rfl) rfl fun a hA => ?_
      refine sq hA (q_move rfl) rfl fun a hA => ?_
      refine sl hA (lo_call fn18 rfl (refright7_any _ _)) rfl ?_
      rintro _ w ⟨rfl, hC⟩ a hA
      replace hH := HS.call0 hH hC
      clear hC
      replace hA := hA.decF hR
      refine sq hA (q_not rfl) rfl fun a hA => ?_
      refine wpList_nil ?_
      refine hK11 _ _ ?_
      clear hK11
      replace hA := hA.sub (E' := [(24, _), (8, _), (7, _), (6, _), (3, _), (1, _), (2, _)]) ⟨rfl, rfl, rfl, rfl, rfl, rfl, rfl, trivial⟩
      refine cond_t hA rfl ?_
      refine wp_seq_k fun K12 hK12 => ?_
      refine wp_region_lit ?_
      refine sq hA (q_move rfl) rfl fun a hA => ?_
      refine sq hA (q_nilNil Tryd.underlying33 rfl rfl) rfl fun a hA => ?_
      refine sq hA (q_move rfl) rfl fun a hA => ?_
      refine gq hA rfl rfl (q_move rfl) rfl fun a hA => ?_
      refine gq hA rfl rfl (q_eqlI (n := 1) rfl rfl) rfl fun a hA => ?_
      refine sq hA (q_pick_t rfl rfl) rfl fun a hA => ?_
      replace hA := hA.decT (by first | rfl | omega | assumption | (simp; done) | (simp [*]; done))
      refine sq hA (q_move rfl) rfl fun a hA => ?_
      refine gl hA rfl rfl (lo_call fn12 rfl (awake7_any (hg.mono0 hH))) rfl ?_
      rintro _ w ⟨rfl, hC⟩ a hA
      replace hH := HS.call0 hH hC
      clear hC
      refine sq hA (q_pick_t rfl rfl) rfl fun a hA => ?_
      refine sq hA (q_assign rfl) rfl fun a hA => ?_
      refine wpList_nil ?_
      refine hK12 _ _ ?_
      clear hK12
      replace hA := hA.sub (E' := [(6, _), (8, _), (7, _), (3, _), (1, _), (2, _)]) ⟨rfl, rfl, rfl, rfl, rfl, rfl, trivial⟩
      refine wp_ret ?_
      refine then_ret ?_
      refine post_ret hA (res_1 rfl hA rfl) ?_
      replace hH := hH.pick [] (Hs' := []) rfl
      exact ⟨_, rfl, rfl, hH⟩

end Go.Proofs.YtipjpbfledddaaaDoor
