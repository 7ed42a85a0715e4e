/- Layer 3 (mac): the same bytes? -/
import Derived.Test.YthhdilafnfcpbaaDoorBi
namespace Go.Proofs.YthhdilafnfcpbaaDoor
open Go
set_option linter.unusedVariables false
set_option linter.unusedSimpArgs false
set_option maxRecDepth 100000

theorem msame_any {w0 : World} (u v : Value) (p q : Bs) (hp : By [] w0 u p) (hq : By [] w0 v q) (hl : p.length ≤ 1048576) (hm : q.length ≤ 1048576) :
    Calls Tryd.prog 57 #[u, v] w0 (Ret fun r w' => r = .tuple #[.bool (decide (p = q)), I (max (p.length : Int) q.length)] ∧ HS [] w0 w' []) := by
 have hH := HS.start w0
 refine start (n := 50) (E := [(0, _), (1, _)]) Tryd.func57 rfl rfl rfl (args_look rfl) ?_
 intro a hA
 refine wp_seq_k fun K1 hK1 => ?_
 refine wp_region_lit ?_
 refine asg hA fun a hA => ?_
 refine asg hA fun a hA => ?_
 refine wpList_nil ?_
 refine hK1 _ _ ?_
 clear hK1
 refine wp_seq_k fun K2 hK2 => ?_
 refine wp_seq_k fun K3 hK3 => ?_
 refine wp_region_lit ?_
 refine mv hA fun a hA => ?_
 refine sq hA (q_len Tryd.underlying32 rfl (Rd.shp hp)) rfl fun a hA => ?_
 refine mv hA fun a hA => ?_
 refine sq hA (q_len Tryd.underlying32 rfl (Rd.shp hq)) rfl fun a hA => ?_
 refine sq hA (q_lssI rfl rfl) rfl fun a hA => ?_
 refine wpList_nil ?_
 refine hK3 _ _ ?_
 clear hK3
 replace hA := hA.s5 15 5 4 0 1
 refine cond_d hA rfl (fun hc15 => ?_) (fun hc15 => ?_)
 ·skip
  refine wp_region_lit ?_
  refine mv hA fun a hA => ?_
  refine mv hA fun a hA => ?_
  refine asg hA fun a hA => ?_
  refine asg hA fun a hA => ?_
  refine wpList_nil ?_
  refine hK2 _ _ ?_
  clear hK2
  replace hA := hA.s4 1 0 5 4
  refine wp_seq_k fun K4 hK4 => ?_
  refine wp_region_lit ?_
  refine mv hA fun a hA => ?_
  refine sq hA (q_len Tryd.underlying32 rfl (Rd.shp hq)) rfl fun a hA => ?_
  refine mv hA fun a hA => ?_
  refine sq hA (q_len Tryd.underlying32 rfl (Rd.shp hp)) rfl fun a hA => ?_
  refine sq hA (q_subI rfl rfl (by omega)) rfl fun a hA => ?_
  rw [show ((q.length : Int) - p.length) = ((q.length - p.length : Nat) : Int) by omega] at hA
  refine asg hA fun a hA => ?_
  refine asg hA fun a hA => ?_
  refine wpList_nil ?_
  refine hK4 _ _ ?_
  clear hK4
  replace hA := hA.s6 7 6 1 0 5 4
  refine wp_seq_k fun K5 hK5 => ?_
  refine wp_seq_k fun K6 hK6 => ?_
  refine wp_region_lit ?_
  refine mv hA fun a hA => ?_
  refine sq hA (q_len Tryd.underlying32 rfl (Rd.shp hq)) rfl fun a hA => ?_
  refine mv hA fun a hA => ?_
  refine wpList_nil ?_
  refine hK6 _ _ ?_
  clear hK6
  replace hA := hA.s8 25 24 23 7 6 1 5 4
  refine wp_block ?_
  refine wp_loop_ghost (fun gm a w => ∃ i : Nat, ∃ z : Nat, At 50 [(25, I i), (24, I (q).length), (23, v), (7, I i), (6, I z), (1, u), (5, (I 0)), (4, (.bool false))] a ∧ HS [] w0 w ([]) ∧ (i ≤ q.length) ∧ (z < 4611686018427387904) ∧ (z = 0 ↔ q.length = p.length ∧ q.take i = p.take i) ∧ gm = q.length - i) (q.length - (0)) ⟨0, q.length - p.length, hA.sub ⟨rfl, rfl, rfl, rfl, rfl, rfl, rfl, rfl, trivial⟩, hH, by omega, by omega, by (simp; omega), rfl⟩ ?_
  clear hA hH
  rintro gm a w ⟨i, z, hA, hH, hi, hzb, hz, rfl⟩
  refine wp_seq_k fun K7 hK7 => ?_
  refine wp_region_lit ?_
  refine sq hA (q_lssI rfl rfl) rfl fun a hA => ?_
  refine wpList_nil ?_
  refine hK7 _ _ ?_
  clear hK7
  refine wp_seq_k fun K8 hK8 => ?_
  refine cond_d hA rfl (fun hc26 => ?_) (fun hc26 => ?_)
  ·skip
   refine wp_skip ?_
   refine hK8 _ _ ?_
   clear hK8
   refine wp_seq_k fun K9 hK9 => ?_
   refine wp_block ?_
   refine wp_seq_k fun K10 hK10 => ?_
   refine wp_region_lit ?_
   refine mv hA fun a hA => ?_
   refine sq hA (q_idx1 (i) Tryd.underlying32 ti5 rfl rfl (by first | omega | rfl) (Rd.shp hq) (by first | omega | (simp; done) | (simp; omega) | (rw [List.length_map]; assumption) | assumption | rfl | (simp [*]; done) | (simp [*]; omega))) rfl fun a hA => ?_
   refine sq hA (q_loadRm (0#8) Tryd.underlying5 rfl rfl (hH.rd hq) (by first | omega | (simp; done) | (simp; omega) | (rw [List.length_map]; assumption) | assumption | rfl | (simp [*]; done) | (simp [*]; omega))) rfl fun a hA => ?_
   refine asg hA fun a hA => ?_
   refine asg hA fun a hA => ?_
   refine wpList_nil ?_
   refine hK10 _ _ ?_
   clear hK10
   refine wp_seq_k fun K11 hK11 => ?_
   refine wp_region_lit ?_
   refine asg hA fun a hA => ?_
   refine wpList_nil ?_
   refine hK11 _ _ ?_
   clear hK11
   refine wp_seq_k fun K12 hK12 => ?_
   refine wp_seq_k fun K13 hK13 => ?_
   refine wp_region_lit ?_
   refine mv hA fun a hA => ?_
   refine mv hA fun a hA => ?_
   refine sq hA (q_len Tryd.underlying32 rfl (Rd.shp hp)) rfl fun a hA => ?_
   refine sq hA (q_lssI rfl rfl) rfl fun a hA => ?_
   refine wpList_nil ?_
   refine hK13 _ _ ?_
   clear hK13
   refine cond_d hA rfl (fun hc33 => ?_) (fun hc33 => ?_)
   ·skip
    obtain ⟨c, hcb0⟩ : ∃ c, c = (p).getD i 0#8 := ⟨_, rfl⟩
    have hcb : i < p.length → c = p.getD i 0#8 := fun _ => hcb0
    have hx8 := (q.getD i 0#8 ^^^ c).isLt
    refine wp_region_lit ?_
    refine mv hA fun a hA => ?_
    refine mv hA fun a hA => ?_
    refine sq hA (q_idx1 (i) Tryd.underlying32 ti5 rfl rfl (by first | omega | rfl) (Rd.shp hp) (by first | omega | (simp; done) | (simp; omega) | (rw [List.length_map]; assumption) | assumption | rfl | (simp [*]; done) | (simp [*]; omega))) rfl fun a hA => ?_
    refine sq hA (q_loadRm (0#8) Tryd.underlying5 rfl rfl (hH.rd hp) (by first | omega | (simp; done) | (simp; omega) | (rw [List.length_map]; assumption) | assumption | rfl | (simp [*]; done) | (simp [*]; omega))) rfl fun a hA => ?_
    rw [← hcb0] at hA
    refine asg hA fun a hA => ?_
    refine wpList_nil ?_
    refine hK12 _ _ ?_
    clear hK12
    refine wp_seq_k fun K14 hK14 => ?_
    refine wp_region_lit ?_
    refine mv hA fun a hA => ?_
    refine mv hA fun a hA => ?_
    refine mv hA fun a hA => ?_
    refine sq hA (q_xor8 rfl rfl) rfl fun a hA => ?_
    refine sq hA (q_cv8_I Tryd.underlying5 Tryd.underlying3 rfl (Nat.le_trans (Nat.le_of_lt (BitVec.isLt _)) (by decide))) rfl fun a hA => ?_
    refine sq hA (q_orI rfl rfl (by omega) (by omega)) rfl fun a hA => ?_
    refine asg hA fun a hA => ?_
    refine wpList_nil ?_
    refine hK14 _ _ ?_
    clear hK14
    refine wp_region_lit ?_
    refine mv hA fun a hA => ?_
    refine sq hA (q_addI (n := 1) rfl rfl (by omega)) rfl fun a hA => ?_
    refine asg hA fun a hA => ?_
    refine wpList_nil ?_
    refine block_normal ?_
    refine hK9 _ _ ?_
    clear hK9
    refine wp_region_lit ?_
    refine sq hA (q_addI (n := 1) rfl rfl (by omega)) rfl fun a hA => ?_
    refine mv hA fun a hA => ?_
    refine wpList_nil ?_
    exact ⟨_, by omega, i + 1, z ||| (q.getD i 0#8 ^^^ c).toNat, hA.sub ⟨rfl, rfl, rfl, rfl, rfl, rfl, rfl, rfl, trivial⟩, hH, by omega, by exact or_lt hzb hx8, by exact same_step q p (by omega) (by omega) hz hcb, rfl⟩
   ·skip
    obtain ⟨c, hc0⟩ : ∃ c : BitVec 8, c = 0#8 := ⟨_, rfl⟩
    rw [show (Value.int .u8 0) = B8 c from (by rw [hc0]; rfl)] at hA
    have hcb : i < p.length → c = p.getD i 0#8 := fun h => (by omega)
    have hx8 := (q.getD i 0#8 ^^^ c).isLt
    refine wp_skip ?_
    refine hK12 _ _ ?_
    clear hK12
    refine wp_seq_k fun K15 hK15 => ?_
    refine wp_region_lit ?_
    refine mv hA fun a hA => ?_
    refine mv hA fun a hA => ?_
    refine mv hA fun a hA => ?_
    refine sq hA (q_xor8 rfl rfl) rfl fun a hA => ?_
    refine sq hA (q_cv8_I Tryd.underlying5 Tryd.underlying3 rfl (Nat.le_trans (Nat.le_of_lt (BitVec.isLt _)) (by decide))) rfl fun a hA => ?_
    refine sq hA (q_orI rfl rfl (by omega) (by omega)) rfl fun a hA => ?_
    refine asg hA fun a hA => ?_
    refine wpList_nil ?_
    refine hK15 _ _ ?_
    clear hK15
    refine wp_region_lit ?_
    refine mv hA fun a hA => ?_
    refine sq hA (q_addI (n := 1) rfl rfl (by omega)) rfl fun a hA => ?_
    refine asg hA fun a hA => ?_
    refine wpList_nil ?_
    refine block_normal ?_
    refine hK9 _ _ ?_
    clear hK9
    refine wp_region_lit ?_
    refine sq hA (q_addI (n := 1) rfl rfl (by omega)) rfl fun a hA => ?_
    refine mv hA fun a hA => ?_
    refine wpList_nil ?_
    exact ⟨_, by omega, i + 1, z ||| (q.getD i 0#8 ^^^ c).toNat, hA.sub ⟨rfl, rfl, rfl, rfl, rfl, rfl, rfl, rfl, trivial⟩, hH, by omega, by exact or_lt hzb hx8, by exact same_step q p (by omega) (by omega) hz hcb, rfl⟩
  ·skip
   refine wp_exit ?_
   refine then_exit ?_
   refine then_exit ?_
   refine exit_here ?_
   refine hK5 _ _ ?_
   clear hK5
   replace hA := hA.s4 7 6 5 4
   refine wp_seq_k fun K16 hK16 => ?_
   refine wp_region_lit ?_
   refine mv hA fun a hA => ?_
   refine sq hA (q_eqlI (n := 0) rfl rfl) rfl fun a hA => ?_
   refine mv hA fun a hA => ?_
   refine asg hA fun a hA => ?_
   refine asg hA fun a hA => ?_
   refine wpList_nil ?_
   refine hK16 _ _ ?_
   clear hK16
   replace hA := hA.s2 5 4
   refine wp_ret ?_
   refine post_ret hA (res_2 rfl hA rfl rfl) ?_
   obtain rfl : i = q.length := by omega
   have e1 : decide ((z : Int) = 0) = decide (p = q) := decide_eq_decide.2 ((same_fin q p hz).trans ⟨Eq.symm, Eq.symm⟩)
   have e2 : ((q.length : Nat) : Int) = max (p.length : Int) q.length := by omega
   exact ⟨_, rfl, by rw [← e1, ← e2], hH⟩
 ·skip
  refine wp_skip ?_
  refine hK2 _ _ ?_
  clear hK2
  replace hA := hA.s4 5 4 0 1
  refine wp_seq_k fun K17 hK17 => ?_
  refine wp_region_lit ?_
  refine mv hA fun a hA => ?_
  refine sq hA (q_len Tryd.underlying32 rfl (Rd.shp hp)) rfl fun a hA => ?_
  refine mv hA fun a hA => ?_
  refine sq hA (q_len Tryd.underlying32 rfl (Rd.shp hq)) rfl fun a hA => ?_
  refine sq hA (q_subI rfl rfl (by omega)) rfl fun a hA => ?_
  rw [show ((p.length : Int) - q.length) = ((p.length - q.length : Nat) : Int) by omega] at hA
  refine asg hA fun a hA => ?_
  refine asg hA fun a hA => ?_
  refine wpList_nil ?_
  refine hK17 _ _ ?_
  clear hK17
  replace hA := hA.s6 7 6 5 4 0 1
  refine wp_seq_k fun K18 hK18 => ?_
  refine wp_seq_k fun K19 hK19 => ?_
  refine wp_region_lit ?_
  refine mv hA fun a hA => ?_
  refine sq hA (q_len Tryd.underlying32 rfl (Rd.shp hp)) rfl fun a hA => ?_
  refine mv hA fun a hA => ?_
  refine wpList_nil ?_
  refine hK19 _ _ ?_
  clear hK19
  replace hA := hA.s8 25 24 23 7 6 5 4 1
  refine wp_block ?_
  refine wp_loop_ghost (fun gm a w => ∃ i : Nat, ∃ z : Nat, At 50 [(25, I i), (24, I (p).length), (23, u), (7, I i), (6, I z), (5, (I 0)), (4, (.bool false)), (1, v)] a ∧ HS [] w0 w ([]) ∧ (i ≤ p.length) ∧ (z < 4611686018427387904) ∧ (z = 0 ↔ p.length = q.length ∧ p.take i = q.take i) ∧ gm = p.length - i) (p.length - (0)) ⟨0, p.length - q.length, hA.sub ⟨rfl, rfl, rfl, rfl, rfl, rfl, rfl, rfl, trivial⟩, hH, by omega, by omega, by (simp; omega), rfl⟩ ?_
  clear hA hH
  rintro gm a w ⟨i, z, hA, hH, hi, hzb, hz, rfl⟩
  refine wp_seq_k fun K20 hK20 => ?_
  refine wp_region_lit ?_
  refine sq hA (q_lssI rfl rfl) rfl fun a hA => ?_
  refine wpList_nil ?_
  refine hK20 _ _ ?_
  clear hK20
  refine wp_seq_k fun K21 hK21 => ?_
  refine cond_d hA rfl (fun hc26 => ?_) (fun hc26 => ?_)
  ·skip
   refine wp_skip ?_
   refine hK21 _ _ ?_
   clear hK21
   refine wp_seq_k fun K22 hK22 => ?_
   refine wp_block ?_
   refine wp_seq_k fun K23 hK23 => ?_
   refine wp_region_lit ?_
   refine mv hA fun a hA => ?_
   refine sq hA (q_idx1 (i) Tryd.underlying32 ti5 rfl rfl (by first | omega | rfl) (Rd.shp hp) (by first | omega | (simp; done) | (simp; omega) | (rw [List.length_map]; assumption) | assumption | rfl | (simp [*]; done) | (simp [*]; omega))) rfl fun a hA => ?_
   refine sq hA (q_loadRm (0#8) Tryd.underlying5 rfl rfl (hH.rd hp) (by first | omega | (simp; done) | (simp; omega) | (rw [List.length_map]; assumption) | assumption | rfl | (simp [*]; done) | (simp [*]; omega))) rfl fun a hA => ?_
   refine asg hA fun a hA => ?_
   refine asg hA fun a hA => ?_
   refine wpList_nil ?_
   refine hK23 _ _ ?_
   clear hK23
   refine wp_seq_k fun K24 hK24 => ?_
   refine wp_region_lit ?_
   refine asg hA fun a hA => ?_
   refine wpList_nil ?_
   refine hK24 _ _ ?_
   clear hK24
   refine wp_seq_k fun K25 hK25 => ?_
   refine wp_seq_k fun K26 hK26 => ?_
   refine wp_region_lit ?_
   refine mv hA fun a hA => ?_
   refine mv hA fun a hA => ?_
   refine sq hA (q_len Tryd.underlying32 rfl (Rd.shp hq)) rfl fun a hA => ?_
   refine sq hA (q_lssI rfl rfl) rfl fun a hA => ?_
   refine wpList_nil ?_
   refine hK26 _ _ ?_
   clear hK26
   refine cond_d hA rfl (fun hc33 => ?_) (fun hc33 => ?_)
   ·skip
    obtain ⟨c, hcb0⟩ : ∃ c, c = (q).getD i 0#8 := ⟨_, rfl⟩
    have hcb : i < q.length → c = q.getD i 0#8 := fun _ => hcb0
    have hx8 := (p.getD i 0#8 ^^^ c).isLt
    refine wp_region_lit ?_
    refine mv hA fun a hA => ?_
    refine mv hA fun a hA => ?_
    refine sq hA (q_idx1 (i) Tryd.underlying32 ti5 rfl rfl (by first | omega | rfl) (Rd.shp hq) (by first | omega | (simp; done) | (simp; omega) | (rw [List.length_map]; assumption) | assumption | rfl | (simp [*]; done) | (simp [*]; omega))) rfl fun a hA => ?_
    refine sq hA (q_loadRm (0#8) Tryd.underlying5 rfl rfl (hH.rd hq) (by first | omega | (simp; done) | (simp; omega) | (rw [List.length_map]; assumption) | assumption | rfl | (simp [*]; done) | (simp [*]; omega))) rfl fun a hA => ?_
    rw [← hcb0] at hA
    refine asg hA fun a hA => ?_
    refine wpList_nil ?_
    refine hK25 _ _ ?_
    clear hK25
    refine wp_seq_k fun K27 hK27 => ?_
    refine wp_region_lit ?_
    refine mv hA fun a hA => ?_
    refine mv hA fun a hA => ?_
    refine mv hA fun a hA => ?_
    refine sq hA (q_xor8 rfl rfl) rfl fun a hA => ?_
    refine sq hA (q_cv8_I Tryd.underlying5 Tryd.underlying3 rfl (Nat.le_trans (Nat.le_of_lt (BitVec.isLt _)) (by decide))) rfl fun a hA => ?_
    refine sq hA (q_orI rfl rfl (by omega) (by omega)) rfl fun a hA => ?_
    refine asg hA fun a hA => ?_
    refine wpList_nil ?_
    refine hK27 _ _ ?_
    clear hK27
    refine wp_region_lit ?_
    refine mv hA fun a hA => ?_
    refine sq hA (q_addI (n := 1) rfl rfl (by omega)) rfl fun a hA => ?_
    refine asg hA fun a hA => ?_
    refine wpList_nil ?_
    refine block_normal ?_
    refine hK22 _ _ ?_
    clear hK22
    refine wp_region_lit ?_
    refine sq hA (q_addI (n := 1) rfl rfl (by omega)) rfl fun a hA => ?_
    refine mv hA fun a hA => ?_
    refine wpList_nil ?_
    exact ⟨_, by omega, i + 1, z ||| (p.getD i 0#8 ^^^ c).toNat, hA.sub ⟨rfl, rfl, rfl, rfl, rfl, rfl, rfl, rfl, trivial⟩, hH, by omega, by exact or_lt hzb hx8, by exact same_step p q (by omega) (by omega) hz hcb, rfl⟩
   ·skip
    obtain ⟨c, hc0⟩ : ∃ c : BitVec 8, c = 0#8 := ⟨_, rfl⟩
    rw [show (Value.int .u8 0) = B8 c from (by rw [hc0]; rfl)] at hA
    have hcb : i < q.length → c = q.getD i 0#8 := fun h => (by omega)
    have hx8 := (p.getD i 0#8 ^^^ c).isLt
    refine wp_skip ?_
    refine hK25 _ _ ?_
    clear hK25
    refine wp_seq_k fun K28 hK28 => ?_
    refine wp_region_lit ?_
    refine mv hA fun a hA => ?_
    refine mv hA fun a hA => ?_
    refine mv hA fun a hA => ?_
    refine sq hA (q_xor8 rfl rfl) rfl fun a hA => ?_
    refine sq hA (q_cv8_I Tryd.underlying5 Tryd.underlying3 rfl (Nat.le_trans (Nat.le_of_lt (BitVec.isLt _)) (by decide))) rfl fun a hA => ?_
    refine sq hA (q_orI rfl rfl (by omega) (by omega)) rfl fun a hA => ?_
    refine asg hA fun a hA => ?_
    refine wpList_nil ?_
    refine hK28 _ _ ?_
    clear hK28
    refine wp_region_lit ?_
    refine mv hA fun a hA => ?_
    refine sq hA (q_addI (n := 1) rfl rfl (by omega)) rfl fun a hA => ?_
    refine asg hA fun a hA => ?_
    refine wpList_nil ?_
    refine block_normal ?_
    refine hK22 _ _ ?_
    clear hK22
    refine wp_region_lit ?_
    refine sq hA (q_addI (n := 1) rfl rfl (by omega)) rfl fun a hA => ?_
    refine mv hA fun a hA => ?_
    refine wpList_nil ?_
    exact ⟨_, by omega, i + 1, z ||| (p.getD i 0#8 ^^^ c).toNat, hA.sub ⟨rfl, rfl, rfl, rfl, rfl, rfl, rfl, rfl, trivial⟩, hH, by omega, by exact or_lt hzb hx8, by exact same_step p q (by omega) (by omega) hz hcb, rfl⟩
  ·skip
   refine wp_exit ?_
   refine then_exit ?_
   refine then_exit ?_
   refine exit_here ?_
   refine hK18 _ _ ?_
   clear hK18
   replace hA := hA.s4 7 6 5 4
   refine wp_seq_k fun K29 hK29 => ?_
   refine wp_region_lit ?_
   refine mv hA fun a hA => ?_
   refine sq hA (q_eqlI (n := 0) rfl rfl) rfl fun a hA => ?_
   refine mv hA fun a hA => ?_
   refine asg hA fun a hA => ?_
   refine asg hA fun a hA => ?_
   refine wpList_nil ?_
   refine hK29 _ _ ?_
   clear hK29
   replace hA := hA.s2 5 4
   refine wp_ret ?_
   refine post_ret hA (res_2 rfl hA rfl rfl) ?_
   obtain rfl : i = p.length := by omega
   have e1 : decide ((z : Int) = 0) = decide (p = q) := decide_eq_decide.2 (same_fin p q hz)
   have e2 : ((p.length : Nat) : Int) = max (p.length : Int) q.length := by omega
   exact ⟨_, rfl, by rw [← e1, ← e2], hH⟩

end Go.Proofs.YthhdilafnfcpbaaDoor
