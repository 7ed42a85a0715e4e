/- The texts V1, V2, V3, V4, V5, V6, V7, V8, V9, Va, Vb, Vc, Vd, Ve, Vf, Vg, Vh, Vi of this proof's library, one behind the other. -/
import Derived.Test.YthhdilafnfcpbaaDoorMq
import Derived.Test.YthhdilafnfcpbaaDoorMzc
/- The vault in plain Lean: what stands on a tape, what is opened. -/
namespace Go.Proofs.YthhdilafnfcpbaaDoor
open Go
set_option linter.unusedVariables false
set_option linter.unusedSimpArgs false
/-- a record of a generation, as bytes -/
def rec' (g : Nat) (b : Bs) : Bs := wnum g ++ wtext b
/-- the number and the text of a frame's record; is it so? -/
def unp (l : Bs) : Nat × Bs × Bool :=
  ((rNum 1099511627776 (l, 0)).1.toNat, (rText 262144 (rNum 1099511627776 (l, 0)).2).1, decide ((rEnd (rText 262144 (rNum 1099511627776 (l, 0)).2).2).1 = 0))
theorem unp_rec {g : Nat} {b : Bs} (hg : g ≤ 1099511627776) (hb : b.length ≤ 262144) : unp (rec' g b) = (g, b, true) := by
  have h1 := num_back (n := g) (by omega) (most := 1099511627776) hg (wtext b)
  have h2 := text_back (l := b) (most := 262144) (by omega) (by omega) []
  rw [List.append_nil] at h2
  have h3 : (BitVec.ofNat 64 g).toNat = g := by rw [BitVec.toNat_ofNat]; exact Nat.mod_eq_of_lt (by omega)
  rw [unp, rec', h1]
  simp only [h2, h3]
  simp [rEnd]
theorem rec_len {g : Nat} {b : Bs} (hg : g ≤ 1099511627776) (hb : b.length ≤ 262144) : (rec' g b).length ≤ b.length + 18 := by
  have h1 := wd_le (n := g) (by omega)
  have h2 := wd_le (n := b.length) (by omega)
  rw [rec', List.length_append, wnum_length, wtext_length]
  omega
def recOk (l : Bs) : Bool := (unp l).2.2
/-- the journal's records up to the first that isn't one -/
def jok (l : Bs) : List Bs := (scanV l).1.takeWhile recOk
def jrecs (g : Nat) (l : Bs) : List Bs := ((jok l).filter fun r => (unp r).1 == g).map fun r => (unp r).2.1
def jgood (l : Bs) : Nat := (wfs (jok l)).length
/-- the snapshot of a slot -/
def slotP (i : Nat) (l : Bs) : Nat × Bs :=
  match frV l with
  | none => (0, [])
  | some (r, _) => if recOk r = true ∧ 0 < (unp r).1 ∧ (unp r).1 % 2 = i % 2 then ((unp r).1, (unp r).2.1) else (0, [])
def pickV (a b : Nat × Bs) : Nat × Bs := if a.1 < b.1 then b else a
/-- what is opened: the generation, the snapshot, the records -/
def opnV (j one two : Bs) : Nat × Bs × List Bs := ((pickV (slotP 1 one) (slotP 2 two)).1, (pickV (slotP 1 one) (slotP 2 two)).2, jrecs (pickV (slotP 1 one) (slotP 2 two)).1 j)
theorem slotP_none {i : Nat} {l : Bs} (h : frV l = none) : slotP i l = (0, []) := by rw [slotP, h]
theorem slotP_rec {i g : Nat} {b Y : Bs} (hg : g ≤ 1099511627776) (hb : b.length ≤ 262080) (h0 : 0 < g) (hi : g % 2 = i % 2) : slotP i (wf (rec' g b) ++ Y) = (g, b) := by
  have h1 := rec_len (b := b) hg (by omega)
  have h2 := unp_rec (b := b) hg (by omega)
  rw [slotP, frV_wf (by omega)]
  simp [recOk, h2, h0, hi]
theorem slotP_cut {i g : Nat} {b : Bs} {c : Nat} (hg : g ≤ 1099511627776) (hb : b.length ≤ 262080) (hc : c < (wf (rec' g b)).length) : slotP i ((wf (rec' g b)).take c) = (0, []) :=
  slotP_none (frV_cut (by have h1 := rec_len (b := b) hg (by omega); omega) hc)
/-- a journal of records, and something behind that is no frame -/
def recsOf (ks : List (Nat × Bs)) : List Bs := ks.map fun k => rec' k.1 k.2
def KsOk (ks : List (Nat × Bs)) : Prop := ∀ k ∈ ks, k.1 ≤ 1099511627776 ∧ k.2.length ≤ 262080
theorem scanV_tail {ls : List Bs} {Y : Bs} (h : ∀ r ∈ ls, r.length ≤ 262144) (hY : frV Y = none) : scanV (wfs ls ++ Y) = (ls, (wfs ls).length) := by
  have h1 := scN_frames Y h (Nat.le_refl ls.length)
  rw [List.take_length] at h1
  have h2 : frV ((wfs ls ++ Y).drop (scN (wfs ls ++ Y) ls.length).2) = none := by rw [h1, List.drop_left]; exact hY
  rw [scanV_of h2, h1]
theorem KsOk.len {ks : List (Nat × Bs)} (h : KsOk ks) : ∀ r ∈ recsOf ks, r.length ≤ 262144 := fun r hr => by
  obtain ⟨k, hk, rfl⟩ := List.mem_map.1 hr
  obtain ⟨h1, h2⟩ := h k hk
  have h3 := rec_len (g := k.1) (b := k.2) h1 (by omega)
  omega
theorem KsOk.ok {ks : List (Nat × Bs)} (h : KsOk ks) : ∀ r ∈ recsOf ks, recOk r = true := fun r hr => by
  obtain ⟨k, hk, rfl⟩ := List.mem_map.1 hr
  obtain ⟨h1, h2⟩ := h k hk
  rw [recOk, unp_rec h1 (by omega)]
theorem takeWhile_all {α : Type} {p : α → Bool} : ∀ {l : List α}, (∀ x ∈ l, p x = true) → l.takeWhile p = l
  | [], _ => rfl
  | x :: r, h => by
    rw [List.takeWhile_cons, h x List.mem_cons_self]
    simp only [if_true]
    rw [takeWhile_all fun y hy => h y (List.mem_cons_of_mem _ hy)]
theorem jok_of {ks : List (Nat × Bs)} {Y : Bs} (h : KsOk ks) (hY : frV Y = none) : jok (wfs (recsOf ks) ++ Y) = recsOf ks := by
  rw [jok, scanV_tail h.len hY, takeWhile_all h.ok]
theorem jrecs_of {ks : List (Nat × Bs)} {Y : Bs} {g : Nat} (h : KsOk ks) (hY : frV Y = none) : jrecs g (wfs (recsOf ks) ++ Y) = (ks.filter fun k => k.1 == g).map fun k => k.2 := by
  rw [jrecs, jok_of h hY]
  induction ks with
  | nil => rfl
  | cons k r ih =>
    have h1 := h k List.mem_cons_self
    have h2 := unp_rec (g := k.1) (b := k.2) h1.1 (by omega)
    have ih := ih fun x hx => h x (List.mem_cons_of_mem _ hx)
    simp only [recsOf, List.map_cons, List.filter_cons, h2] at ih ⊢
    by_cases hk : k.1 == g
    · simp only [hk, if_true, List.map_cons, h2, ih]
    · simp only [hk, if_false, ih, Bool.false_eq_true]
theorem jgood_of {ks : List (Nat × Bs)} {Y : Bs} (h : KsOk ks) (hY : frV Y = none) : jgood (wfs (recsOf ks) ++ Y) = (wfs (recsOf ks)).length := by
  rw [jgood, jok_of h hY]
theorem jgood_le (l : Bs) : jgood l ≤ l.length := by
  have h1 := scN_one l l.length
  have h2 : (wfs (scanV l).1).length ≤ l.length := by rw [scanV, h1.1, List.length_take]; exact Nat.min_le_right _ _
  have h3 : wfs (scanV l).1 = wfs ((scanV l).1.takeWhile recOk) ++ wfs ((scanV l).1.dropWhile recOk) := by rw [← wfs_append, List.takeWhile_append_dropWhile]
  rw [h3, List.length_append] at h2
  show (wfs ((scanV l).1.takeWhile recOk)).length ≤ l.length
  omega
end Go.Proofs.YthhdilafnfcpbaaDoor
/- A tape in plain Lean; what a vault does to it; what a crash leaves. -/
namespace Go.Proofs.YthhdilafnfcpbaaDoor
open Go
set_option linter.unusedVariables false
set_option linter.unusedSimpArgs false
structure TF where
  sure : Bs
  now : Bs
  op : List (Bool × Nat)
structure Tp where
  fs : Nat → TF
  fuse : Int
  down : Bool
def upd {α : Type} (f : Nat → α) (i : Nat) (x : α) : Nat → α := fun j => if j = i then x else f j
@[simp] theorem upd_at {α : Type} (f : Nat → α) (i : Nat) (x : α) : upd f i x i = x := by simp [upd]
theorem upd_ne {α : Type} (f : Nat → α) {i j : Nat} (x : α) (h : j ≠ i) : upd f i x j = f j := by simp [upd, h]
theorem upd_upd {α : Type} (f : Nat → α) (i : Nat) (x y : α) : upd (upd f i x) i y = upd f i y := by
  funext j; by_cases h : j = i <;> simp [upd, h]
theorem upd_id {α : Type} (f : Nat → α) (i : Nat) : upd f i (f i) = f := by
  funext j; by_cases h : j = i <;> simp [upd, h]
def fz (f : Int) (k : Nat) : Int := if 0 ≤ f then f - k else f
/-- how many of so many steps the power is there for -/
def appK (f : Int) (n : Nat) : Nat := if 0 ≤ f then min f.toNat n else n
theorem appK_le (f : Int) (n : Nat) : appK f n ≤ n := by unfold appK; split <;> omega
def stp (b : Bs) : List (Bool × Nat) := b.map fun c => (false, c.toNat)
def Tp.app (T : Tp) (i : Nat) (b : Bs) : Nat × Tp :=
  if T.down = true then (100, T) else if 1048576 < (T.fs i).now.length + b.length then (90, T)
  else (if appK T.fuse b.length < b.length then 100 else 0, ⟨upd T.fs i ⟨(T.fs i).sure, (T.fs i).now ++ b.take (appK T.fuse b.length), (T.fs i).op ++ stp (b.take (appK T.fuse b.length))⟩, fz T.fuse (appK T.fuse b.length), decide (appK T.fuse b.length < b.length)⟩)
def Tp.cut (T : Tp) (i n : Nat) : Nat × Tp :=
  if T.down = true ∨ T.fuse = 0 then (100, ⟨T.fs, T.fuse, true⟩)
  else (0, ⟨upd T.fs i ⟨(T.fs i).sure, (T.fs i).now.take n, (T.fs i).op ++ [(true, n)]⟩, fz T.fuse 1, T.down⟩)
def Tp.sync (T : Tp) (i : Nat) : Nat × Tp :=
  if T.down = true ∨ T.fuse = 0 then (100, ⟨T.fs, T.fuse, true⟩)
  else (0, ⟨upd T.fs i ⟨(T.fs i).now, (T.fs i).now, []⟩, fz T.fuse 1, T.down⟩)
def runB : Bs → List (Bool × Nat) → Bs
  | b, [] => b
  | b, (true, n) :: r => runB (b.take n) r
  | b, (false, c) :: r => runB (b ++ [BitVec.ofNat 8 c]) r
def OpOk : Bs → List (Bool × Nat) → Prop
  | _, [] => True
  | b, (true, n) :: r => n ≤ b.length ∧ OpOk (b.take n) r
  | b, (false, c) :: r => c < 256 ∧ OpOk (b ++ [BitVec.ofNat 8 c]) r
theorem runB_append : ∀ (x y : List (Bool × Nat)) (b : Bs), runB b (x ++ y) = runB (runB b x) y
  | [], _, _ => rfl
  | (true, n) :: r, y, b => runB_append r y _
  | (false, c) :: r, y, b => runB_append r y _
theorem OpOk_append : ∀ {x y : List (Bool × Nat)} {b : Bs}, OpOk b x → OpOk (runB b x) y → OpOk b (x ++ y)
  | [], _, _, _, h => h
  | (true, n) :: r, y, b, h1, h2 => ⟨h1.1, OpOk_append h1.2 h2⟩
  | (false, c) :: r, y, b, h1, h2 => ⟨h1.1, OpOk_append h1.2 h2⟩
theorem runB_stp : ∀ (x b : Bs), runB b (stp x) = b ++ x
  | [], b => by simp [stp, runB]
  | c :: r, b => by
    show runB (b ++ [BitVec.ofNat 8 c.toNat]) (stp r) = b ++ c :: r
    rw [runB_stp r, BitVec.ofNat_toNat, BitVec.setWidth_eq]; simp
theorem OpOk_stp : ∀ (x b : Bs), OpOk b (stp x)
  | [], b => trivial
  | c :: r, b => ⟨c.isLt, OpOk_stp r _⟩
theorem stp_take (x : Bs) (k : Nat) : (stp x).take k = stp (x.take k) := by simp [stp, List.map_take]
theorem stp_length (x : Bs) : (stp x).length = x.length := by simp [stp]
/-- what there is now is what is sure and the steps behind it -/
def TF.Ok (F : TF) : Prop := runB F.sure F.op = F.now ∧ OpOk F.sure F.op ∧ F.now.length ≤ 1048576 ∧ F.sure.length ≤ 1048576
def Tp.Ok (T : Tp) : Prop := ∀ i, (T.fs i).Ok
theorem TF.Ok.app {F : TF} (h : F.Ok) {b : Bs} {k : Nat} (hb : F.now.length + b.length ≤ 1048576) : TF.Ok ⟨F.sure, F.now ++ b.take k, F.op ++ stp (b.take k)⟩ := by
  obtain ⟨h1, h2, h3, h4⟩ := h
  refine ⟨by rw [runB_append, h1, runB_stp], OpOk_append h2 (OpOk_stp _ _), ?_, h4⟩
  rw [List.length_append, List.length_take]; omega
theorem TF.Ok.cut {F : TF} (h : F.Ok) {n : Nat} (hn : n ≤ F.now.length) : TF.Ok ⟨F.sure, F.now.take n, F.op ++ [(true, n)]⟩ := by
  obtain ⟨h1, h2, h3, h4⟩ := h
  refine ⟨by rw [runB_append, h1]; rfl, OpOk_append h2 (by rw [h1]; exact ⟨hn, trivial⟩), ?_, h4⟩
  rw [List.length_take]; omega
theorem TF.Ok.sync {F : TF} (h : F.Ok) : TF.Ok ⟨F.now, F.now, []⟩ := ⟨rfl, trivial, h.2.2.1, h.2.2.1⟩
theorem Tp.Ok.upd {T : Tp} (h : T.Ok) {i : Nat} {F : TF} (hF : F.Ok) (f : Int) (d : Bool) : Tp.Ok ⟨upd T.fs i F, f, d⟩ := fun j => by
  by_cases hj : j = i
  · subst hj; simpa using hF
  · show (Go.Proofs.YthhdilafnfcpbaaDoor.upd T.fs i F j).Ok
    rw [upd_ne _ _ hj]; exact h j
theorem Tp.Ok.app {T : Tp} (h : T.Ok) (i : Nat) (b : Bs) : (T.app i b).2.Ok := by
  unfold Tp.app
  split
  · exact h
  split
  · exact h
  · exact h.upd ((h i).app (by omega)) _ _
theorem Tp.Ok.cut {T : Tp} (h : T.Ok) (i : Nat) {n : Nat} (hn : n ≤ (T.fs i).now.length) : (T.cut i n).2.Ok := by
  unfold Tp.cut
  split
  · exact h
  · exact h.upd ((h i).cut hn) _ _
theorem Tp.Ok.sync {T : Tp} (h : T.Ok) (i : Nat) : (T.sync i).2.Ok := by
  unfold Tp.sync
  split
  · exact h
  · exact h.upd (h i).sync _ _
/-- how many steps of a file are kept -/
def manyK (kept : List Int) (i n : Nat) : Nat := if i < kept.length then (min (max (kept.getD i 0) 0) n).toNat else 0
theorem manyK_le (kept : List Int) (i n : Nat) : manyK kept i n ≤ n := by unfold manyK; split <;> omega
def left (F : TF) (k : Nat) : Bs := runB F.sure (F.op.take k)
def Tp.kept (T : Tp) (ks : List Int) (i : Nat) : Bs := left (T.fs i) (manyK ks i (T.fs i).op.length)
def Tp.crash (T : Tp) (ks : List Int) : Tp := ⟨fun i => ⟨T.kept ks i, T.kept ks i, []⟩, -1, false⟩
/-! ### what a vault does -/
structure Vs where
  gen : Nat
  text : Bs
  recs : List Bs
  down : Bool
def andT (s1 s2 : Tp → Nat × Tp) (T : Tp) : Nat × Tp := if (s1 T).1 ≠ 0 then s1 T else s2 (s1 T).2
theorem andT_no {s1 s2 : Tp → Nat × Tp} {T : Tp} (h : (s1 T).1 ≠ 0) : andT s1 s2 T = s1 T := if_pos h
theorem andT_ok {s1 s2 : Tp → Nat × Tp} {T : Tp} (h : (s1 T).1 = 0) : andT s1 s2 T = s2 (s1 T).2 := if_neg (by omega)
def slotG (g : Nat) : Nat := 2 - g % 2
def opnT (T : Tp) : Vs := ⟨(opnV (T.fs 0).now (T.fs 1).now (T.fs 2).now).1, (opnV (T.fs 0).now (T.fs 1).now (T.fs 2).now).2.1, (opnV (T.fs 0).now (T.fs 1).now (T.fs 2).now).2.2, false⟩
def mend (T : Tp) : Nat × Tp := if jgood (T.fs 0).now = (T.fs 0).now.length then (0, T) else andT (fun T' => T'.cut 0 (jgood (T.fs 0).now)) (fun T' => T'.sync 0) T
def addS (g : Nat) (b : Bs) : Tp → Nat × Tp := andT (fun T => T.app 0 (wf (rec' g b))) (fun T => T.sync 0)
def addV (T : Tp) (V : Vs) (b : Bs) : Nat × Tp × Vs :=
  if V.down = true then (100, T, V) else if 262080 < b.length then (42, T, V)
  else ((addS V.gen b T).1, (addS V.gen b T).2, if (addS V.gen b T).1 = 0 then ⟨V.gen, V.text, V.recs ++ [b], false⟩ else ⟨V.gen, V.text, V.recs, decide ((addS V.gen b T).1 = 100)⟩)
def saveS (g : Nat) (b : Bs) : Tp → Nat × Tp :=
  andT (fun T => T.cut (slotG g) 0) (andT (fun T => T.app (slotG g) (wf (rec' g b))) (andT (fun T => T.sync (slotG g)) (andT (fun T => T.cut 0 0) (fun T => T.sync 0))))
def saveV (T : Tp) (V : Vs) (b : Bs) : Nat × Tp × Vs :=
  if V.down = true then (100, T, V) else if 262080 < b.length then (42, T, V) else if V.gen = 1099511627776 then (90, T, V)
  else ((saveS (V.gen + 1) b T).1, (saveS (V.gen + 1) b T).2, if (saveS (V.gen + 1) b T).1 = 0 then ⟨V.gen + 1, b, [], false⟩ else ⟨V.gen, V.text, V.recs, decide ((saveS (V.gen + 1) b T).1 = 100)⟩)
end Go.Proofs.YthhdilafnfcpbaaDoor
/- Calls of a vault, wherever the power goes: what a crash leaves is opened as what there was, or as what is under way. -/
namespace Go.Proofs.YthhdilafnfcpbaaDoor
open Go
set_option linter.unusedVariables false
set_option linter.unusedSimpArgs false
def slv (n : Nat → Bs) : Nat × Bs := pickV (slotP 1 (n 1)) (slotP 2 (n 2))
def filt (g : Nat) (ks : List (Nat × Bs)) : List Bs := (ks.filter fun k => k.1 == g).map fun k => k.2
theorem slotP_cases (i : Nat) (l : Bs) : slotP i l = (0, []) ∨ (0 < (slotP i l).1 ∧ (slotP i l).1 % 2 = i % 2) := by
  unfold slotP
  split
  · exact .inl rfl
  · rename_i r n _
    by_cases h : recOk r = true ∧ 0 < (unp r).1 ∧ (unp r).1 % 2 = i % 2
    · rw [if_pos h]; exact .inr ⟨h.2.1, h.2.2⟩
    · rw [if_neg h]; exact .inl rfl
theorem slotG_even {g : Nat} (h : g % 2 = 0) : slotG (g + 1) = 1 := by unfold slotG; omega
theorem slotG_odd {g : Nat} (h : g % 2 = 1) : slotG (g + 1) = 2 := by unfold slotG; omega
theorem slotG_ne (g : Nat) : slotG g ≠ 0 ∧ slotG g < 3 ∧ (0 < g → slotG g % 2 = g % 2) := by unfold slotG; omega
theorem slv_new {n n' : Nat → Bs} {g : Nat} {t b : Bs} (h : slv n = (g, t)) (h' : slotP (slotG (g + 1)) (n' (slotG (g + 1))) = (g + 1, b)) (ho : ∀ j, 0 < j → j ≠ slotG (g + 1) → n' j = n j) : slv n' = (g + 1, b) := by
  rw [slv, pickV] at h
  rcases Nat.mod_two_eq_zero_or_one g with hg | hg
  · rw [slotG_even hg] at h' ho
    rw [slv, pickV, h', ho 2 (by decide) (by decide), if_neg]
    split at h
    · rw [h]; show ¬ g + 1 < g; omega
    · rename_i h2; rw [h] at h2; simp only at h2 ⊢; omega
  · rw [slotG_odd hg] at h' ho
    rw [slv, pickV, h', ho 1 (by decide) (by decide), if_pos]
    split at h
    · rename_i h2; rw [h] at h2; simp only at h2 ⊢; omega
    · rw [h]; show g < g + 1; omega
theorem slv_none {n n' : Nat → Bs} {g : Nat} {t : Bs} (h : slv n = (g, t)) (h' : slotP (slotG (g + 1)) (n' (slotG (g + 1))) = (0, [])) (ho : ∀ j, 0 < j → j ≠ slotG (g + 1) → n' j = n j) : slv n' = (g, t) := by
  rw [slv, pickV] at h
  have c1 := slotP_cases 1 (n 1)
  have c2 := slotP_cases 2 (n 2)
  rcases Nat.mod_two_eq_zero_or_one g with hg | hg
  · rw [slotG_even hg] at h' ho
    rw [slv, pickV, h', ho 2 (by decide) (by decide)]
    split at h
    · rename_i h2
      rw [h] at h2 ⊢
      rw [if_pos]; simp only at h2 ⊢; omega
    · rename_i h2
      rcases c1 with c1 | c1
      · rw [c1] at h h2
        obtain ⟨rfl, rfl⟩ : 0 = g ∧ [] = t := by simpa using h
        rw [if_neg]; simpa using h2
      · rw [h] at c1; simp only at c1; omega
  · rw [slotG_odd hg] at h' ho
    rw [slv, pickV, h', ho 1 (by decide) (by decide)]
    split at h
    · rcases c2 with c2 | c2
      · rw [c2] at h; simp at h; omega
      · rw [h] at c2; simp only at c2; omega
    · rw [h, if_neg]; simp
theorem slv_same {n n' : Nat → Bs} (h1 : n' 1 = n 1) (h2 : n' 2 = n 2) : slv n' = slv n := by rw [slv, slv, h1, h2]
theorem opn_of {n : Nat → Bs} {g : Nat} {t Y : Bs} {ks : List (Nat × Bs)} (hs : slv n = (g, t)) (hj : n 0 = wfs (recsOf ks) ++ Y) (hk : KsOk ks) (hY : frV Y = none) : opnV (n 0) (n 1) (n 2) = (g, t, filt g ks) := by
  have h1 : pickV (slotP 1 (n 1)) (slotP 2 (n 2)) = (g, t) := hs
  rw [opnV, h1, hj, jrecs_of hk hY]; rfl
def Vs.all (V : Vs) : Nat × Bs × List Bs := (V.gen, V.text, V.recs)
structure Inv (T : Tp) (V : Vs) : Prop where
  dn : T.down = false
  vd : V.down = false
  ok : T.Ok
  op : ∀ i, (T.fs i).op = []
  sl : slv (fun i => (T.fs i).now) = (V.gen, V.text)
  jn : ∃ ks, (T.fs 0).now = wfs (recsOf ks) ∧ KsOk ks ∧ (∀ k ∈ ks, k.1 ≤ V.gen) ∧ filt V.gen ks = V.recs
  gl : V.gen ≤ 1099511627776
theorem Inv.sure {T : Tp} {V : Vs} (h : Inv T V) (i : Nat) : (T.fs i).sure = (T.fs i).now := by
  have h1 := (h.ok i).1
  rw [h.op i] at h1; exact h1
theorem Inv.opn {T : Tp} {V : Vs} (h : Inv T V) : opnT T = V ∧ mend T = (0, T) := by
  obtain ⟨ks, h1, h2, h3, h4⟩ := h.jn
  have h5 := opn_of (Y := []) h.sl (by simpa using h1) h2 frV_nil
  have h6 := jgood_of (Y := []) h2 frV_nil
  rw [List.append_nil, ← h1] at h6
  refine ⟨?_, by rw [mend, if_pos h6]⟩
  obtain ⟨g, t, r, d⟩ := V
  simp only [opnT, h5, h4, h.vd]
  rw [show d = false from h.vd]
theorem kept_no {T : Tp} {ks : List Int} {i : Nat} (h : (T.fs i).op = []) : T.kept ks i = (T.fs i).sure := by
  rw [Tp.kept, left, h, List.take_nil]; rfl
/-- a crash leaves the one, or the other -/
def Cr (T : Tp) (V V' : Vs) : Prop := ∀ ks, opnV (T.kept ks 0) (T.kept ks 1) (T.kept ks 2) = V.all ∨ opnV (T.kept ks 0) (T.kept ks 1) (T.kept ks 2) = V'.all
theorem filt_snoc (g : Nat) (ks : List (Nat × Bs)) (b : Bs) : filt g (ks ++ [(g, b)]) = filt g ks ++ [b] := by
  simp [filt, List.filter_append]
theorem filt_above {g : Nat} {ks : List (Nat × Bs)} (h : ∀ k ∈ ks, k.1 ≤ g) : filt (g + 1) ks = [] := by
  rw [filt, List.filter_eq_nil_iff.2, List.map_nil]
  intro k hk
  have := h k hk
  simp; omega
theorem recsOf_snoc (ks : List (Nat × Bs)) (k : Nat × Bs) : wfs (recsOf (ks ++ [k])) = wfs (recsOf ks) ++ wf (rec' k.1 k.2) := by
  rw [recsOf, List.map_append, wfs_append]
  simp [wfs, recsOf]
theorem KsOk.snoc {ks : List (Nat × Bs)} {g : Nat} {b : Bs} (h : KsOk ks) (hg : g ≤ 1099511627776) (hb : b.length ≤ 262080) : KsOk (ks ++ [(g, b)]) := fun k hk => by
  rcases List.mem_append.1 hk with hk | hk
  · exact h k hk
  · rw [List.mem_singleton.1 hk]; exact ⟨hg, hb⟩
/-- a crash of files that have no steps open, one apart -/
theorem opn_inv {T : Tp} {V : Vs} (h : Inv T V) {n : Nat → Bs} (hn : ∀ j, n j = (T.fs j).now) : opnV (n 0) (n 1) (n 2) = V.all := by
  obtain ⟨ks, h1, h2, h3, h4⟩ := h.jn
  have h5 := opn_of (n := n) (Y := []) (by rw [← h.sl]; exact slv_same (hn 1) (hn 2)) (by rw [hn 0, h1, List.append_nil]) h2 frV_nil
  rw [h5, h4]; rfl
theorem Cr.same {T T' : Tp} {V V' : Vs} (h : Inv T V) (hf : T'.fs = T.fs) : Cr T' V V' := fun ks => .inl (opn_inv (n := fun i => T'.kept ks i) h fun j => by
  show T'.kept ks j = _
  rw [Tp.kept, hf, h.op j]
  show left (T.fs j) _ = _
  rw [left, h.op j, List.take_nil]; exact h.sure j)
theorem left_stp (A x : Bs) (k : Nat) : left ⟨A, A ++ x, stp x⟩ k = A ++ x.take k := by
  show runB A ((stp x).take k) = _
  rw [stp_take, runB_stp]
theorem left_cut (A x : Bs) (k : Nat) : left ⟨A, x, (true, 0) :: stp x⟩ (k + 1) = x.take k := by
  show runB (A.take 0) ((stp x).take k) = _
  rw [stp_take, runB_stp]; simp
end Go.Proofs.YthhdilafnfcpbaaDoor
/- A record is added, a snapshot saved, wherever the power goes. -/
namespace Go.Proofs.YthhdilafnfcpbaaDoor
open Go
set_option linter.unusedVariables false
set_option linter.unusedSimpArgs false
theorem kept_at (fs : Nat → TF) (i : Nat) (F : TF) (f : Int) (d : Bool) (ks : List Int) : Tp.kept ⟨upd fs i F, f, d⟩ ks i = left F (manyK ks i F.op.length) := by
  rw [Tp.kept]; simp only [upd_at]
theorem kept_ne {fs : Nat → TF} {i j : Nat} {F : TF} {f : Int} {d : Bool} {ks : List Int} (h : j ≠ i) (ho : (fs j).op = []) : Tp.kept ⟨upd fs i F, f, d⟩ ks j = (fs j).sure := by
  rw [Tp.kept]; simp only [upd_ne _ _ h, left, ho, List.take_nil]; rfl
theorem wf_len {g : Nat} {b : Bs} (hg : g ≤ 1099511627776) (hb : b.length ≤ 262080) : (wf (rec' g b)).length ≤ b.length + 35 := by
  have h1 := rec_len (b := b) hg (by omega)
  have h2 := wd_le (n := (rec' g b).length) (by omega)
  rw [wf_length]; omega
theorem fz_neg {f : Int} {k : Nat} (h : f < 0) : fz f k = f := by unfold fz; rw [if_neg (by omega)]
theorem add_inv {T : Tp} {V : Vs} {b : Bs} (h : Inv T V) (hb : b.length ≤ 262080) (hr : (T.fs 0).now.length + b.length + 35 ≤ 1048576) :
    ((addV T V b).1 = 0 ∧ (addV T V b).2.2 = ⟨V.gen, V.text, V.recs ++ [b], false⟩ ∧ Inv (addV T V b).2.1 ⟨V.gen, V.text, V.recs ++ [b], false⟩ ∧ ((addV T V b).2.1.fs 0).now.length ≤ (T.fs 0).now.length + b.length + 35 ∧ (T.fuse < 0 → (addV T V b).2.1.fuse = T.fuse)) ∨
    ((addV T V b).1 = 100 ∧ (addV T V b).2.1.down = true ∧ (addV T V b).2.2.down = true ∧ (addV T V b).2.1.Ok ∧ Cr (addV T V b).2.1 V ⟨V.gen, V.text, V.recs ++ [b], false⟩ ∧ ¬ T.fuse < 0) := by
  obtain ⟨ks, j1, j2, j3, j4⟩ := h.jn
  have hwl := wf_len (b := b) h.gl hb
  obtain ⟨F, hF⟩ : ∃ F, F = wf (rec' V.gen b) := ⟨_, rfl⟩
  obtain ⟨A, hA⟩ : ∃ A, A = (T.fs 0).now := ⟨_, rfl⟩
  have hok := (h.ok.app 0 F)
  rw [← hF] at hwl
  have hs := h.sure
  have e1 : T.app 0 F = (if appK T.fuse F.length < F.length then 100 else 0, ⟨upd T.fs 0 ⟨A, A ++ F.take (appK T.fuse F.length), stp (F.take (appK T.fuse F.length))⟩, fz T.fuse (appK T.fuse F.length), decide (appK T.fuse F.length < F.length)⟩) := by
    unfold Tp.app
    rw [if_neg (by rw [h.dn]; decide), if_neg (by omega), hs 0, h.op 0, ← hA, List.nil_append]
  have e2 : addV T V b = ((addS V.gen b T).1, (addS V.gen b T).2, if (addS V.gen b T).1 = 0 then ⟨V.gen, V.text, V.recs ++ [b], false⟩ else ⟨V.gen, V.text, V.recs, decide ((addS V.gen b T).1 = 100)⟩) := by
    unfold addV
    rw [if_neg (by rw [h.vd]; decide), if_neg (by omega)]
  have hsl : ∀ {n : Nat → Bs}, (∀ j, 0 < j → n j = (T.fs j).now) → slv n = (V.gen, V.text) := fun hn => by
    rw [← h.sl]; exact slv_same (hn 1 (by decide)) (hn 2 (by decide))
  have hpart : ∀ {n : Nat → Bs} (c : Nat), n 0 = A ++ F.take c → c < F.length → (∀ j, 0 < j → n j = (T.fs j).now) → opnV (n 0) (n 1) (n 2) = V.all := fun {n} c h0 hc hn => by
    rw [opn_of (n := n) (Y := F.take c) (hsl hn) (by rw [h0, hA, j1]) j2 (by rw [hF] at hc ⊢; exact frV_cut (by have h1 := rec_len (b := b) h.gl (by omega); omega) hc), j4]; rfl
  have hfull : ∀ {n : Nat → Bs}, n 0 = A ++ F → (∀ j, 0 < j → n j = (T.fs j).now) → opnV (n 0) (n 1) (n 2) = (V.gen, V.text, V.recs ++ [b]) := fun {n} h0 hn => by
    rw [opn_of (n := n) (Y := []) (ks := ks ++ [(V.gen, b)]) (hsl hn) (by rw [h0, hA, j1, recsOf_snoc, ← hF, List.append_nil]) (j2.snoc h.gl hb) frV_nil, filt_snoc, j4]
  rw [e2]
  unfold addS
  rw [← hF]
  by_cases hk : appK T.fuse F.length < F.length
  · rw [if_pos hk] at e1
    rw [andT_no (fun hh => absurd (hh.symm.trans (congrArg Prod.fst e1)) (by decide : ¬ (0 : Nat) = 100))]
    refine .inr ⟨by rw [e1], by rw [e1]; simpa using hk, by rw [e1]; rfl, hok, fun kp => .inl ?_, ?_⟩
    · rw [e1]
      refine hpart (n := fun j => Tp.kept ⟨upd T.fs 0 ⟨A, A ++ F.take (appK T.fuse F.length), stp (F.take (appK T.fuse F.length))⟩, fz T.fuse (appK T.fuse F.length), decide (appK T.fuse F.length < F.length)⟩ kp j) (min (manyK kp 0 (stp (F.take (appK T.fuse F.length))).length) (appK T.fuse F.length)) ?_ (by omega) fun j hj => ?_
      · show Tp.kept _ kp 0 = _
        rw [kept_at, left_stp, List.take_take]
      · show Tp.kept _ kp j = _
        rw [kept_ne (by omega) (h.op j), hs j]
    · intro hf; unfold appK at hk; rw [if_neg (by omega)] at hk; omega
  · have hk2 : appK T.fuse F.length = F.length := Nat.le_antisymm (appK_le _ _) (by omega)
    rw [if_neg hk, hk2, List.take_length] at e1
    rw [andT_ok (congrArg Prod.fst e1)]
    have hd : decide (F.length < F.length) = false := by simp
    rw [hd] at e1
    rw [e1]
    rw [e1] at hok
    have hok2 := Tp.Ok.sync hok 0
    simp only [Tp.sync, upd_at, Bool.false_eq_true, false_or] at hok2 ⊢
    by_cases hf : fz T.fuse F.length = 0
    · rw [if_pos hf] at hok2
      simp only [if_pos hf]
      refine .inr ⟨trivial, trivial, rfl, hok2, fun kp => ?_, ?_⟩
      · have q0 : ∀ j, 0 < j → Tp.kept ⟨upd T.fs 0 ⟨A, A ++ F, stp F⟩, fz T.fuse F.length, true⟩ kp j = (T.fs j).now := fun j hj => by rw [kept_ne (by omega) (h.op j), hs j]
        have q1 : Tp.kept ⟨upd T.fs 0 ⟨A, A ++ F, stp F⟩, fz T.fuse F.length, true⟩ kp 0 = A ++ F.take (manyK kp 0 (stp F).length) := by rw [kept_at, left_stp]
        by_cases hc : manyK kp 0 (stp F).length < F.length
        · exact .inl (hpart (n := fun j => Tp.kept ⟨upd T.fs 0 ⟨A, A ++ F, stp F⟩, fz T.fuse F.length, true⟩ kp j) _ q1 hc q0)
        · rw [List.take_of_length_le (by omega)] at q1
          exact .inr (hfull (n := fun j => Tp.kept ⟨upd T.fs 0 ⟨A, A ++ F, stp F⟩, fz T.fuse F.length, true⟩ kp j) q1 q0)
      · intro hn; rw [fz_neg hn] at hf; omega
    · rw [if_neg hf] at hok2
      simp only [if_neg hf, upd_upd, if_true] at hok2 ⊢
      refine .inl ⟨trivial, trivial, ⟨rfl, rfl, hok2, fun i => ?_, ?_, ⟨ks ++ [(V.gen, b)], ?_, j2.snoc h.gl hb, ?_, ?_⟩, h.gl⟩, ?_, ?_⟩
      · by_cases hi : i = 0
        · subst hi; simp
        · simp only [upd_ne _ _ hi]; exact h.op i
      · exact hsl fun j hj => by simp only [upd_ne _ _ (show j ≠ 0 by omega)]
      · simp only [upd_at]; rw [hA, j1, recsOf_snoc, ← hF]
      · intro k hk'
        rcases List.mem_append.1 hk' with hk' | hk'
        · exact j3 k hk'
        · rw [List.mem_singleton.1 hk']; exact Nat.le_refl _
      · rw [filt_snoc, j4]
      · simp only [upd_at, List.length_append]; rw [hA]; omega
      · intro hn; simp only [fz_neg hn]
end Go.Proofs.YthhdilafnfcpbaaDoor
/- A snapshot is saved, wherever the power goes. -/
namespace Go.Proofs.YthhdilafnfcpbaaDoor
open Go
set_option linter.unusedVariables false
set_option linter.unusedSimpArgs false
theorem save_inv {T : Tp} {V : Vs} {b : Bs} (h : Inv T V) (hb : b.length ≤ 262080) (hg : V.gen < 1099511627776) :
    ((saveV T V b).1 = 0 ∧ (saveV T V b).2.2 = ⟨V.gen + 1, b, [], false⟩ ∧ Inv (saveV T V b).2.1 ⟨V.gen + 1, b, [], false⟩ ∧ ((saveV T V b).2.1.fs 0).now = [] ∧ (T.fuse < 0 → (saveV T V b).2.1.fuse = T.fuse)) ∨
    ((saveV T V b).1 = 100 ∧ (saveV T V b).2.1.down = true ∧ (saveV T V b).2.2.down = true ∧ (saveV T V b).2.1.Ok ∧ Cr (saveV T V b).2.1 V ⟨V.gen + 1, b, [], false⟩ ∧ ¬ T.fuse < 0) := by
  obtain ⟨ks, j1, j2, j3, j4⟩ := h.jn
  have hwl := wf_len (g := V.gen + 1) (b := b) (by omega) hb
  have hrl := rec_len (g := V.gen + 1) (b := b) (by omega) (by omega)
  have hsp : slotP (slotG (V.gen + 1)) (wf (rec' (V.gen + 1) b) ++ []) = (V.gen + 1, b) := slotP_rec (by omega) hb (by omega) ((slotG_ne _).2.2 (by omega)).symm
  rw [List.append_nil] at hsp
  obtain ⟨F, hF⟩ : ∃ F, F = wf (rec' (V.gen + 1) b) := ⟨_, rfl⟩
  have hcut : ∀ c, c < F.length → slotP (slotG (V.gen + 1)) (F.take c) = (0, []) := fun c hc => by
    rw [hF] at hc ⊢; exact slotP_cut (by omega) hb hc
  rw [← hF] at hwl hsp
  obtain ⟨hs0, hs3, _⟩ := slotG_ne (V.gen + 1)
  have e2 : saveV T V b = ((saveS (V.gen + 1) b T).1, (saveS (V.gen + 1) b T).2, if (saveS (V.gen + 1) b T).1 = 0 then ⟨V.gen + 1, b, [], false⟩ else ⟨V.gen, V.text, V.recs, decide ((saveS (V.gen + 1) b T).1 = 100)⟩) := by
    unfold saveV
    rw [if_neg (by rw [h.vd]; decide), if_neg (by omega), if_neg (by omega)]
  rw [e2]
  unfold saveS
  rw [← hF]
  have hold0 : ∀ {n : Nat → Bs}, (∀ j, j ≠ slotG (V.gen + 1) → n j = (T.fs j).now) → slotP (slotG (V.gen + 1)) (n (slotG (V.gen + 1))) = (0, []) → opnV (n 0) (n 1) (n 2) = V.all := fun {n} hn h0 => by
    rw [opn_of (n := n) (Y := []) (slv_none h.sl h0 fun j _ hj => hn j hj) (by rw [hn 0 (by omega), j1, List.append_nil]) j2 frV_nil, j4]; rfl
  have hnew0 : ∀ {n : Nat → Bs}, n (slotG (V.gen + 1)) = F → (∀ j, 0 < j → j ≠ slotG (V.gen + 1) → n j = (T.fs j).now) → (n 0 = (T.fs 0).now ∨ n 0 = []) → opnV (n 0) (n 1) (n 2) = (V.gen + 1, b, []) := fun {n} hn ho h0 => by
    have hl := slv_new h.sl (n' := n) (by rw [hn]; exact hsp) fun j h1 h2 => ho j h1 h2
    rcases h0 with h0 | h0
    · rw [opn_of (n := n) (Y := []) hl (by rw [h0, j1, List.append_nil]) j2 frV_nil, filt_above j3]
    · rw [opn_of (n := n) (Y := []) (ks := []) hl (by rw [h0]; rfl) (fun k hk => by cases hk) frV_nil]; rfl
  have hnewS : ∀ {n : Nat → Bs}, n (slotG (V.gen + 1)) = F → (∀ j, 0 < j → j ≠ slotG (V.gen + 1) → n j = (T.fs j).now) → slv n = (V.gen + 1, b) := fun {n} hn ho => slv_new h.sl (n' := n) (by rw [hn]; exact hsp) fun j h1 h2 => ho j h1 h2
  generalize slotG (V.gen + 1) = s at *
  obtain ⟨C, hC⟩ : ∃ C, C = (T.fs s).now := ⟨_, rfl⟩
  obtain ⟨A, hA⟩ : ∃ A, A = (T.fs 0).now := ⟨_, rfl⟩
  have hs := h.sure
  -- the slot is cut
  have hok1 := h.ok.cut s (n := 0) (Nat.zero_le _)
  by_cases f0 : T.fuse = 0
  · have e1 : T.cut s 0 = (100, ⟨T.fs, T.fuse, true⟩) := by unfold Tp.cut; rw [if_pos (.inr f0)]
    rw [andT_no (fun hh => absurd (hh.symm.trans (congrArg Prod.fst e1)) (by decide : ¬ (0 : Nat) = 100)), e1]
    rw [e1] at hok1
    exact .inr ⟨rfl, rfl, rfl, hok1, Cr.same h rfl, by omega⟩
  have e1 : T.cut s 0 = (0, ⟨upd T.fs s ⟨C, [], [(true, 0)]⟩, fz T.fuse 1, false⟩) := by
    unfold Tp.cut; rw [if_neg (by rw [h.dn]; simpa using f0), hs s, h.op s, ← hC, h.dn]; rfl
  rw [andT_ok (congrArg Prod.fst e1)]
  rw [e1] at hok1
  simp only [e1]
  -- the frame is written
  generalize hf1 : fz T.fuse 1 = f1 at *
  have n1 : T.fuse < 0 → f1 < 0 := fun hn => by rw [← hf1, fz_neg hn]; exact hn
  have m1 : T.fuse < 0 → f1 = T.fuse := fun hn => by rw [← hf1, fz_neg hn]
  obtain ⟨T1, hT1⟩ : ∃ T1 : Tp, T1 = ⟨upd T.fs s ⟨C, [], [(true, 0)]⟩, f1, false⟩ := ⟨_, rfl⟩
  rw [← hT1] at hok1 ⊢
  have hok2 := hok1.app s F
  have ea : T1.app s F = (if appK f1 F.length < F.length then 100 else 0, ⟨upd T.fs s ⟨C, F.take (appK f1 F.length), (true, 0) :: stp (F.take (appK f1 F.length))⟩, fz f1 (appK f1 F.length), decide (appK f1 F.length < F.length)⟩) := by
    rw [hT1]; unfold Tp.app
    rw [if_neg (show ¬ (false = true) by decide)]
    simp only [upd_at, upd_upd, List.length_nil, List.nil_append, List.cons_append]
    rw [if_neg (by omega)]
  have hcr : ∀ (f : Int) (d : Bool) (k : Nat) kp, k ≤ F.length → opnV (Tp.kept ⟨upd T.fs s ⟨C, F.take k, (true, 0) :: stp (F.take k)⟩, f, d⟩ kp 0) (Tp.kept ⟨upd T.fs s ⟨C, F.take k, (true, 0) :: stp (F.take k)⟩, f, d⟩ kp 1) (Tp.kept ⟨upd T.fs s ⟨C, F.take k, (true, 0) :: stp (F.take k)⟩, f, d⟩ kp 2) = V.all ∨
      opnV (Tp.kept ⟨upd T.fs s ⟨C, F.take k, (true, 0) :: stp (F.take k)⟩, f, d⟩ kp 0) (Tp.kept ⟨upd T.fs s ⟨C, F.take k, (true, 0) :: stp (F.take k)⟩, f, d⟩ kp 1) (Tp.kept ⟨upd T.fs s ⟨C, F.take k, (true, 0) :: stp (F.take k)⟩, f, d⟩ kp 2) = (V.gen + 1, b, []) := fun f d k kp hk => by
    obtain ⟨n, hn⟩ : ∃ n : Nat → Bs, n = fun j => Tp.kept ⟨upd T.fs s ⟨C, F.take k, (true, 0) :: stp (F.take k)⟩, f, d⟩ kp j := ⟨_, rfl⟩
    have q0 : ∀ j, j ≠ s → n j = (T.fs j).now := fun j hj => by rw [hn]; show Tp.kept _ kp j = _; rw [kept_ne hj (h.op j), hs j]
    have q1 : n s = left ⟨C, F.take k, (true, 0) :: stp (F.take k)⟩ (manyK kp s (F.take k).length.succ) := by
      rw [hn]; show Tp.kept _ kp s = _; rw [kept_at, List.length_cons, stp_length]
    have : opnV (n 0) (n 1) (n 2) = V.all ∨ opnV (n 0) (n 1) (n 2) = (V.gen + 1, b, []) := by
      rcases hm : manyK kp s (F.take k).length.succ with _ | c
      · rw [hm] at q1
        refine .inl (opn_inv h fun j => ?_)
        by_cases hj : j = s
        · rw [hj, q1, ← hC]; rfl
        · exact q0 j hj
      · rw [hm, left_cut, List.take_take] at q1
        by_cases hc : min c k < F.length
        · exact .inl (hold0 q0 (by rw [q1]; exact hcut _ hc))
        · rw [List.take_of_length_le (by omega)] at q1
          exact .inr (hnew0 q1 (fun j _ hj => q0 j hj) (.inl (q0 0 (by omega))))
    rw [hn] at this; exact this
  by_cases hk : appK f1 F.length < F.length
  · rw [if_pos hk] at ea
    rw [andT_no (fun hh => absurd (hh.symm.trans (congrArg Prod.fst ea)) (by decide : ¬ (0 : Nat) = 100)), ea]
    rw [ea] at hok2
    refine .inr ⟨rfl, by simpa using hk, rfl, hok2, fun kp => hcr _ _ _ kp (appK_le _ _), fun hn => ?_⟩
    have := n1 hn
    unfold appK at hk; rw [if_neg (by omega)] at hk; omega
  have hk2 : appK f1 F.length = F.length := Nat.le_antisymm (appK_le _ _) (by omega)
  have hd : decide (F.length < F.length) = false := by simp
  rw [if_neg hk, hk2, hd] at ea
  rw [andT_ok (congrArg Prod.fst ea)]
  rw [ea] at hok2
  simp only [ea]
  -- it is synced
  generalize hf2 : fz f1 F.length = f2 at *
  have n2 : T.fuse < 0 → f2 < 0 := fun hn => by rw [← hf2, fz_neg (n1 hn)]; exact n1 hn
  have m2 : T.fuse < 0 → f2 = T.fuse := fun hn => by rw [← hf2, fz_neg (n1 hn)]; exact m1 hn
  have hok3 := hok2.sync s
  by_cases g2 : f2 = 0
  · have es : Tp.sync ⟨upd T.fs s ⟨C, F.take F.length, (true, 0) :: stp (F.take F.length)⟩, f2, false⟩ s = (100, ⟨upd T.fs s ⟨C, F.take F.length, (true, 0) :: stp (F.take F.length)⟩, f2, true⟩) := by
      unfold Tp.sync; rw [if_pos (.inr g2)]
    rw [andT_no (fun hh => absurd (hh.symm.trans (congrArg Prod.fst es)) (by decide : ¬ (0 : Nat) = 100)), es]
    rw [es] at hok3
    exact .inr ⟨rfl, rfl, rfl, hok3, fun kp => hcr _ _ _ kp (Nat.le_refl _), fun hn => by have := n2 hn; omega⟩
  have es : Tp.sync ⟨upd T.fs s ⟨C, F.take F.length, (true, 0) :: stp (F.take F.length)⟩, f2, false⟩ s = (0, ⟨upd T.fs s ⟨F, F, []⟩, fz f2 1, false⟩) := by
    unfold Tp.sync; rw [if_neg (by simpa using g2)]; simp only [upd_at, upd_upd, List.take_length]
  rw [andT_ok (congrArg Prod.fst es)]
  rw [es] at hok3
  simp only [es]
  -- the journal is cut
  generalize hf3 : fz f2 1 = f3 at *
  have n3 : T.fuse < 0 → f3 < 0 := fun hn => by rw [← hf3, fz_neg (n2 hn)]; exact n2 hn
  have m3 : T.fuse < 0 → f3 = T.fuse := fun hn => by rw [← hf3, fz_neg (n2 hn)]; exact m2 hn
  have hok4 := hok3.cut 0 (n := 0) (Nat.zero_le _)
  by_cases g3 : f3 = 0
  · have ec : Tp.cut ⟨upd T.fs s ⟨F, F, []⟩, f3, false⟩ 0 0 = (100, ⟨upd T.fs s ⟨F, F, []⟩, f3, true⟩) := by
      unfold Tp.cut; rw [if_pos (.inr g3)]
    rw [andT_no (fun hh => absurd (hh.symm.trans (congrArg Prod.fst ec)) (by decide : ¬ (0 : Nat) = 100)), ec]
    rw [ec] at hok4
    refine .inr ⟨rfl, rfl, rfl, hok4, fun kp => .inr ?_, fun hn => by have := n3 hn; omega⟩
    refine hnew0 (n := fun j => Tp.kept ⟨upd T.fs s ⟨F, F, []⟩, f3, true⟩ kp j) ?_ (fun j _ hj => ?_) (.inl ?_)
    · show Tp.kept _ kp s = _; rw [kept_at, left, List.take_nil]; rfl
    · show Tp.kept _ kp j = _; rw [kept_ne hj (h.op j), hs j]
    · show Tp.kept _ kp 0 = _; rw [kept_ne (by omega) (h.op 0), hs 0]
  have ec : Tp.cut ⟨upd T.fs s ⟨F, F, []⟩, f3, false⟩ 0 0 = (0, ⟨upd (upd T.fs s ⟨F, F, []⟩) 0 ⟨A, [], [(true, 0)]⟩, fz f3 1, false⟩) := by
    unfold Tp.cut; rw [if_neg (by simpa using g3)]; simp only [upd_ne _ _ (show (0 : Nat) ≠ s by omega), hs 0, h.op 0, ← hA]; rfl
  rw [andT_ok (congrArg Prod.fst ec)]
  rw [ec] at hok4
  simp only [ec]
  generalize hf4 : fz f3 1 = f4 at *
  have n4 : T.fuse < 0 → f4 < 0 := fun hn => by rw [← hf4, fz_neg (n3 hn)]; exact n3 hn
  have m4 : T.fuse < 0 → f4 = T.fuse := fun hn => by rw [← hf4, fz_neg (n3 hn)]; exact m3 hn
  have hok5 := hok4.sync 0
  have hos : ∀ j, ((upd T.fs s ⟨F, F, []⟩) j).op = [] := fun j => by
    by_cases hj : j = s
    · subst hj; rw [upd_at]
    · rw [upd_ne _ _ hj]; exact h.op j
  by_cases g4 : f4 = 0
  · have ed : Tp.sync ⟨upd (upd T.fs s ⟨F, F, []⟩) 0 ⟨A, [], [(true, 0)]⟩, f4, false⟩ 0 = (100, ⟨upd (upd T.fs s ⟨F, F, []⟩) 0 ⟨A, [], [(true, 0)]⟩, f4, true⟩) := by
      unfold Tp.sync; rw [if_pos (.inr g4)]
    rw [ed]
    rw [ed] at hok5
    refine .inr ⟨rfl, rfl, rfl, hok5, fun kp => .inr ?_, fun hn => by have := n4 hn; omega⟩
    refine hnew0 (n := fun j => Tp.kept ⟨upd (upd T.fs s ⟨F, F, []⟩) 0 ⟨A, [], [(true, 0)]⟩, f4, true⟩ kp j) ?_ (fun j h0 hj => ?_) ?_
    · show Tp.kept _ kp s = _; rw [kept_ne (by omega) (hos s), upd_at]
    · show Tp.kept _ kp j = _; rw [kept_ne (by omega) (hos j), upd_ne _ _ hj, hs j]
    · show Tp.kept _ kp 0 = _ ∨ Tp.kept _ kp 0 = _
      rw [kept_at]
      rcases manyK kp 0 1 with _ | c
      · left; show runB A [] = _; rw [hA]; rfl
      · right; show runB A (List.take (c + 1) [(true, 0)]) = _; simp [runB]
  have ed : Tp.sync ⟨upd (upd T.fs s ⟨F, F, []⟩) 0 ⟨A, [], [(true, 0)]⟩, f4, false⟩ 0 = (0, ⟨upd (upd T.fs s ⟨F, F, []⟩) 0 ⟨[], [], []⟩, fz f4 1, false⟩) := by
    unfold Tp.sync; rw [if_neg (by simpa using g4)]; simp only [upd_at, upd_upd]
  rw [ed]
  rw [ed] at hok5
  refine .inl ⟨rfl, rfl, ⟨rfl, rfl, hok5, fun i => ?_, ?_, ⟨[], by simp [recsOf, wfs], (fun k hk => by cases hk), (fun k hk => by cases hk), rfl⟩, by show V.gen + 1 ≤ _; omega⟩, by simp, fun hn => ?_⟩
  · by_cases hi : i = 0
    · subst hi; simp
    · simp only [upd_ne _ _ hi]; exact hos i
  · refine hnewS ?_ fun j h0 hj => ?_
    · simp only [upd_ne _ _ hs0, upd_at]
    · simp only [upd_ne _ _ (show j ≠ 0 by omega), upd_ne _ _ hj]
  · rw [fz_neg (n4 hn)]; exact m4 hn
end Go.Proofs.YthhdilafnfcpbaaDoor
/- What is opened is mended; opened again, behind whatever crash, it is the same. -/
namespace Go.Proofs.YthhdilafnfcpbaaDoor
open Go
set_option linter.unusedVariables false
set_option linter.unusedSimpArgs false
end Go.Proofs.YthhdilafnfcpbaaDoor
/- A tape in memory: its cells, its files' bytes and steps. -/
namespace Go.Proofs.YthhdilafnfcpbaaDoor
open Go
set_option linter.unusedVariables false
set_option linter.unusedSimpArgs false
def tpC (vs : Nat → Value) (f : Int) (d : Bool) : List Value := [vs 0, vs 1, vs 2, vs 3, vs 4, vs 5, vs 6, vs 7, vs 8, vs 9, vs 10, vs 11, I f, .bool d]
section
variable {vs : Nat → Value} {f g : Int} {d e : Bool} {k : Nat} {v : Value}
theorem tpC_length : (tpC vs f d).length = 14 := rfl
theorem tpC_at (hk : k < 12) : (tpC vs f d)[k]? = some (vs k) := by
  rcases (show k = 0 ∨ k = 1 ∨ k = 2 ∨ k = 3 ∨ k = 4 ∨ k = 5 ∨ k = 6 ∨ k = 7 ∨ k = 8 ∨ k = 9 ∨ k = 10 ∨ k = 11 by omega) with rfl | rfl | rfl | rfl | rfl | rfl | rfl | rfl | rfl | rfl | rfl | rfl <;> rfl
theorem tpC_set (hk : k < 12) : (tpC vs f d).set k v = tpC (upd vs k v) f d := by
  rcases (show k = 0 ∨ k = 1 ∨ k = 2 ∨ k = 3 ∨ k = 4 ∨ k = 5 ∨ k = 6 ∨ k = 7 ∨ k = 8 ∨ k = 9 ∨ k = 10 ∨ k = 11 by omega) with rfl | rfl | rfl | rfl | rfl | rfl | rfl | rfl | rfl | rfl | rfl | rfl <;> rfl
end
def cellsS (op : List (Bool × Nat)) : List Value := (op.map fun p => [Value.bool p.1, I p.2]).flatten
theorem cellsS_snoc (a : List (Bool × Nat)) (p : Bool × Nat) : cellsS (a ++ [p]) = cellsS a ++ [Value.bool p.1, I p.2] := by simp [cellsS]
theorem cellsS_take : ∀ (op : List (Bool × Nat)) (k : Nat), (cellsS op).take (k * 2) = cellsS (op.take k)
  | [], k => by simp [cellsS]
  | p :: r, 0 => by simp [cellsS]
  | p :: r, k + 1 => by
    have ih := cellsS_take r k
    simp only [cellsS, List.map_cons, List.flatten_cons, List.take_succ_cons] at ih ⊢
    rw [show (k + 1) * 2 = k * 2 + 2 by omega]
    simp only [List.cons_append, List.nil_append, List.take_succ_cons, ih]
theorem cellsS_at : ∀ {op : List (Bool × Nat)} {k : Nat} {p : Bool × Nat}, op[k]? = some p → ((cellsS op).drop (k * 2)).take 2 = [Value.bool p.1, I p.2]
  | [], _, _, h => by simp at h
  | q :: r, 0, p, h => by simp at h; subst h; simp [cellsS]
  | q :: r, k + 1, p, h => by
    have ih := cellsS_at (op := r) (k := k) (p := p) (by simpa using h)
    rw [show (k + 1) * 2 = k * 2 + 2 by omega]
    simpa [cellsS] using ih
/-- a file's bytes and steps -/
def FM (U St : Nat) (vs : Nat → Value) (i : Nat) (F : TF) (N : Hl) : Prop := ∃ Ns Nn No, N = Ns ++ (Nn ++ No) ∧ Ow B8 U (vs (3 * i)) F.sure Ns ∧ Ow B8 U (vs (3 * i + 1)) F.now Nn ∧ Own St 2 (vs (3 * i + 2)) F.op.length (cellsS F.op) No
theorem FM.move {U St i : Nat} {vs vs' : Nat → Value} {F : TF} {N : Hl} (h : FM U St vs i F N) (h0 : vs' (3 * i) = vs (3 * i)) (h1 : vs' (3 * i + 1) = vs (3 * i + 1)) (h2 : vs' (3 * i + 2) = vs (3 * i + 2)) : FM U St vs' i F N := by
  obtain ⟨Ns, Nn, No, e, a, b, c⟩ := h
  exact ⟨Ns, Nn, No, e, by rw [h0]; exact a, by rw [h1]; exact b, by rw [h2]; exact c⟩
/-- a tape -/
def TM (U St Tt b_t : Nat) (T : Tp) (N : Hl) : Prop := ∃ vs N0 N1 N2 N3, N = [(b_t, Obj.cells (tpC vs T.fuse T.down).toArray Tt (0, 0))] ++ (N0 ++ (N1 ++ (N2 ++ N3))) ∧ FM U St vs 0 (T.fs 0) N0 ∧ FM U St vs 1 (T.fs 1) N1 ∧ FM U St vs 2 (T.fs 2) N2 ∧ FM U St vs 3 (T.fs 3) N3
/-- five pieces -/
theorem split5 {M : List Nat} {w0 w : World} {a b c d e y : Hl} (h : HS M w0 w [a ++ (b ++ (c ++ (d ++ e))), y]) : HS M w0 w [a, b, c, d, e, y] := by
  have h1 := (h.split.pick [1, 0, 2] (Hs' := [_, _, _]) rfl).split
  have h2 := (h1.pick [1, 0, 2, 3] (Hs' := [_, _, _, _]) rfl).split
  have h3 := (h2.pick [1, 0, 2, 3, 4] (Hs' := [_, _, _, _, _]) rfl).split
  exact h3.pick [4, 3, 2, 0, 1, 5] (Hs' := [a, b, c, d, e, y]) rfl
theorem join5 {M : List Nat} {w0 w : World} {a b c d e y : Hl} (h : HS M w0 w [a, b, c, d, e, y]) : HS M w0 w [a ++ (b ++ (c ++ (d ++ e))), y] := by
  have h1 := (h.pick [3, 4, 2, 1, 0, 5] (Hs' := [d, e, c, b, a, y]) rfl).join
  have h2 := (h1.pick [1, 0, 2, 3, 4] (Hs' := [c, d ++ e, b, a, y]) rfl).join
  have h3 := (h2.pick [1, 0, 2, 3] (Hs' := [b, c ++ (d ++ e), a, y]) rfl).join
  exact (h3.pick [1, 0, 2] (Hs' := [a, b ++ (c ++ (d ++ e)), y]) rfl).join
theorem split3 {M : List Nat} {w0 w : World} {a s n o c d e y : Hl} (h : HS M w0 w [a, s ++ (n ++ o), c, d, e, y]) : HS M w0 w [a, s, n, o, c ++ (d ++ e), y] := by
  have h1 := (h.pick [1, 0, 2, 3, 4, 5] (Hs' := [_, a, c, d, e, y]) rfl).split
  have h2 := (h1.pick [1, 0, 2, 3, 4, 5, 6] (Hs' := [n ++ o, s, a, c, d, e, y]) rfl).split
  have h3 := (h2.pick [5, 6, 0, 1, 2, 3, 4, 7] (Hs' := [d, e, n, o, s, a, c, y]) rfl).join
  have h4 := (h3.pick [5, 0, 1, 2, 3, 4, 6] (Hs' := [c, d ++ e, n, o, s, a, y]) rfl).join
  exact h4.pick [4, 3, 1, 2, 0, 5] (Hs' := [a, s, n, o, c ++ (d ++ e), y]) rfl
theorem join3 {M : List Nat} {w0 w : World} {a s n o c d e y : Hl} (h : HS M w0 w [a, s, n, o, c ++ (d ++ e), y]) : HS M w0 w [a, s ++ (n ++ o), c, d, e, y] := by
  have h1 := (h.pick [4, 0, 1, 2, 3, 5] (Hs' := [c ++ (d ++ e), a, s, n, o, y]) rfl).split
  have h2 := (h1.pick [1, 0, 2, 3, 4, 5, 6] (Hs' := [d ++ e, c, a, s, n, o, y]) rfl).split
  have h3 := (h2.pick [5, 6, 0, 1, 2, 3, 4, 7] (Hs' := [n, o, d, e, c, a, s, y]) rfl).join
  have h4 := (h3.pick [5, 0, 1, 2, 3, 4, 6] (Hs' := [s, n ++ o, d, e, c, a, y]) rfl).join
  exact h4.pick [4, 0, 3, 1, 2, 5] (Hs' := [a, s ++ (n ++ o), c, d, e, y]) rfl
theorem TM.open_ {U St Tt b_t i : Nat} {T : Tp} {N : Hl} (hi : i < 4) (h : TM U St Tt b_t T N) :
    ∃ vs Ns Nn No Nr, Ow B8 U (vs (3 * i)) (T.fs i).sure Ns ∧ Ow B8 U (vs (3 * i + 1)) (T.fs i).now Nn ∧ Own St 2 (vs (3 * i + 2)) (T.fs i).op.length (cellsS (T.fs i).op) No ∧
      (∀ M w0 w y, HS M w0 w [N, y] → HS M w0 w [[(b_t, Obj.cells (tpC vs T.fuse T.down).toArray Tt (0, 0))], Ns, Nn, No, Nr, y]) ∧
      ∀ vs' F f d Ns' Nn' No', (∀ k, k < 12 → k ≠ 3 * i → k ≠ 3 * i + 1 → k ≠ 3 * i + 2 → vs' k = vs k) → Ow B8 U (vs' (3 * i)) F.sure Ns' → Ow B8 U (vs' (3 * i + 1)) F.now Nn' → Own St 2 (vs' (3 * i + 2)) F.op.length (cellsS F.op) No' →
        ∃ N', TM U St Tt b_t ⟨upd T.fs i F, f, d⟩ N' ∧ ∀ M w0 w y, HS M w0 w [[(b_t, Obj.cells (tpC vs' f d).toArray Tt (0, 0))], Ns', Nn', No', Nr, y] → HS M w0 w [N', y] := by
  obtain ⟨vs, N0, N1, N2, N3, rfl, h0, h1, h2, h3⟩ := h
  rcases (show i = 0 ∨ i = 1 ∨ i = 2 ∨ i = 3 by omega) with rfl | rfl | rfl | rfl
  · obtain ⟨Ns, Nn, No, rfl, a, b, c⟩ := h0
    refine ⟨vs, Ns, Nn, No, N1 ++ (N2 ++ N3), a, b, c, fun M w0 w y hh => split3 (split5 hh), fun vs' F f d Ns' Nn' No' hv a' b' c' => ⟨_, ⟨vs', Ns' ++ (Nn' ++ No'), N1, N2, N3, rfl, ⟨Ns', Nn', No', rfl, by simpa using a', by simpa using b', by simpa using c'⟩, ?_, ?_, ?_⟩, fun M w0 w y hh => join5 (join3 hh)⟩⟩
    · exact h1.move (hv 3 (by decide) (by decide) (by decide) (by decide)) (hv 4 (by decide) (by decide) (by decide) (by decide)) (hv 5 (by decide) (by decide) (by decide) (by decide))
    · exact h2.move (hv 6 (by decide) (by decide) (by decide) (by decide)) (hv 7 (by decide) (by decide) (by decide) (by decide)) (hv 8 (by decide) (by decide) (by decide) (by decide))
    · exact h3.move (hv 9 (by decide) (by decide) (by decide) (by decide)) (hv 10 (by decide) (by decide) (by decide) (by decide)) (hv 11 (by decide) (by decide) (by decide) (by decide))
  · obtain ⟨Ns, Nn, No, rfl, a, b, c⟩ := h1
    refine ⟨vs, Ns, Nn, No, N0 ++ (N2 ++ N3), a, b, c, fun M w0 w y hh => split3 ((split5 hh).pick [0, 2, 1, 3, 4, 5] (Hs' := [_, _, _, _, _, _]) rfl), fun vs' F f d Ns' Nn' No' hv a' b' c' => ⟨_, ⟨vs', N0, Ns' ++ (Nn' ++ No'), N2, N3, rfl, ?_, ⟨Ns', Nn', No', rfl, by simpa using a', by simpa using b', by simpa using c'⟩, ?_, ?_⟩, fun M w0 w y hh => join5 ((join3 hh).pick [0, 2, 1, 3, 4, 5] (Hs' := [_, _, _, _, _, _]) rfl)⟩⟩
    · exact h0.move (hv 0 (by decide) (by decide) (by decide) (by decide)) (hv 1 (by decide) (by decide) (by decide) (by decide)) (hv 2 (by decide) (by decide) (by decide) (by decide))
    · exact h2.move (hv 6 (by decide) (by decide) (by decide) (by decide)) (hv 7 (by decide) (by decide) (by decide) (by decide)) (hv 8 (by decide) (by decide) (by decide) (by decide))
    · exact h3.move (hv 9 (by decide) (by decide) (by decide) (by decide)) (hv 10 (by decide) (by decide) (by decide) (by decide)) (hv 11 (by decide) (by decide) (by decide) (by decide))
  · obtain ⟨Ns, Nn, No, rfl, a, b, c⟩ := h2
    refine ⟨vs, Ns, Nn, No, N0 ++ (N1 ++ N3), a, b, c, fun M w0 w y hh => split3 ((split5 hh).pick [0, 3, 1, 2, 4, 5] (Hs' := [_, _, _, _, _, _]) rfl), fun vs' F f d Ns' Nn' No' hv a' b' c' => ⟨_, ⟨vs', N0, N1, Ns' ++ (Nn' ++ No'), N3, rfl, ?_, ?_, ⟨Ns', Nn', No', rfl, by simpa using a', by simpa using b', by simpa using c'⟩, ?_⟩, fun M w0 w y hh => join5 ((join3 hh).pick [0, 2, 3, 1, 4, 5] (Hs' := [_, _, _, _, _, _]) rfl)⟩⟩
    · exact h0.move (hv 0 (by decide) (by decide) (by decide) (by decide)) (hv 1 (by decide) (by decide) (by decide) (by decide)) (hv 2 (by decide) (by decide) (by decide) (by decide))
    · exact h1.move (hv 3 (by decide) (by decide) (by decide) (by decide)) (hv 4 (by decide) (by decide) (by decide) (by decide)) (hv 5 (by decide) (by decide) (by decide) (by decide))
    · exact h3.move (hv 9 (by decide) (by decide) (by decide) (by decide)) (hv 10 (by decide) (by decide) (by decide) (by decide)) (hv 11 (by decide) (by decide) (by decide) (by decide))
  · obtain ⟨Ns, Nn, No, rfl, a, b, c⟩ := h3
    refine ⟨vs, Ns, Nn, No, N0 ++ (N1 ++ N2), a, b, c, fun M w0 w y hh => split3 ((split5 hh).pick [0, 4, 1, 2, 3, 5] (Hs' := [_, _, _, _, _, _]) rfl), fun vs' F f d Ns' Nn' No' hv a' b' c' => ⟨_, ⟨vs', N0, N1, N2, Ns' ++ (Nn' ++ No'), rfl, ?_, ?_, ?_, ⟨Ns', Nn', No', rfl, by simpa using a', by simpa using b', by simpa using c'⟩⟩, fun M w0 w y hh => join5 ((join3 hh).pick [0, 2, 3, 4, 1, 5] (Hs' := [_, _, _, _, _, _]) rfl)⟩⟩
    · exact h0.move (hv 0 (by decide) (by decide) (by decide) (by decide)) (hv 1 (by decide) (by decide) (by decide) (by decide)) (hv 2 (by decide) (by decide) (by decide) (by decide))
    · exact h1.move (hv 3 (by decide) (by decide) (by decide) (by decide)) (hv 4 (by decide) (by decide) (by decide) (by decide)) (hv 5 (by decide) (by decide) (by decide) (by decide))
    · exact h2.move (hv 6 (by decide) (by decide) (by decide) (by decide)) (hv 7 (by decide) (by decide) (by decide) (by decide)) (hv 8 (by decide) (by decide) (by decide) (by decide))
theorem stp_succ {b : Bs} {j : Nat} (h : j < b.length) : stp (b.take (j + 1)) = stp (b.take j) ++ [(false, (b.getD j 0#8).toNat)] := by
  have e : b.take (j + 1) = b.take j ++ [b.getD j 0#8] := by
    rw [List.take_add_one, List.getD_eq_getElem?_getD, List.getElem?_eq_getElem h]; rfl
  rw [e, stp, List.map_append]; rfl
theorem take_succ' {b : Bs} {j : Nat} (h : j < b.length) : b.take (j + 1) = b.take j ++ [b.getD j 0#8] := by
  rw [List.take_add_one, List.getD_eq_getElem?_getD, List.getElem?_eq_getElem h]; rfl
theorem fz_fz {f : Int} {j : Nat} (h : f < 0 ∨ (j : Int) ≤ f) (h0 : fz f j ≠ 0) : fz (fz f j) 1 = fz f (j + 1) ∧ (f < 0 ∨ ((j + 1 : Nat) : Int) ≤ f) := by
  unfold fz at *; constructor <;> (split at h0 <;> omega)
theorem fz1_pos {f : Int} (h : 0 < f) : fz f 1 = f - 1 := by unfold fz; split <;> omega
theorem fz1_neg {f : Int} (h : f < 0) : fz f 1 = f := by unfold fz; split <;> omega
theorem fz_0 (f : Int) : fz f 0 = f := by unfold fz; split <;> omega
theorem fz_lt {f : Int} {j : Nat} (h9 : f ≤ 9223372036854775807) : fz f j ≤ 9223372036854775807 := by unfold fz; split <;> omega
theorem appK_stop {f : Int} {j n : Nat} (h : f < 0 ∨ (j : Int) ≤ f) (h0 : fz f j = 0) (hj : j ≤ n) : appK f n = j := by
  unfold fz at h0; unfold appK; split at h0 <;> rename_i h1
  · rw [if_pos h1]; omega
  · omega
theorem appK_all {f : Int} {n : Nat} (h : f < 0 ∨ (n : Int) ≤ f) : appK f n = n := by
  unfold appK; split <;> omega
/-- the address of one of an array's structs -/
theorem q_idxAk {P : Program} {E : Env} {ty t : TypeId} {w : World} {x y : Operand} {e : TypeId} {len k bb : Nat} {z : Value} {kk : IntKind} {i : Int} {b : Nat} (j : Nat) (hT : P.underlying t = some (.array len e)) (he : TI P e k bb z) (hx : E.ev x = some (.pointer (some ⟨b, 0, none⟩))) (hy : E.ev y = some (.int kk i)) (hj : i = j)
    (hi : j < len) : Runs P E (.indexAddr t x y) ty w (.pointer (some ⟨b, k * j, none⟩)) := by
  have := q_idxA (P := P) (ty := ty) (w := w) hT he hx hy (by omega)
  subst hj
  simpa [Nat.mul_comm] using this
/-- a slice of one's own is cleared -/
theorem lo_clear {P : Program} {E : Env} {ty t : TypeId} {w w0 : World} {M : List Nat} {x : Operand} {e k bb n : Nat} {z v : Value} {cs : List Value} {N : Hl} {rest : List Hl} (hH : HS M w0 w (N :: rest)) (ht : P.underlying t = some (.slice e)) (he : TI P e k bb z) (hz : z.cells.size = k)
    (h1 : ∀ u ∈ z.cells.toList, u.oneCell' = true) (hx : E.ev x = some v) (hown : Own e k v n cs N) :
    Lo P E (.call ⟨.builtin .clear, #[x], #[t]⟩) ty w (fun _ w' => ∃ N' cs', Own e k v n cs' N' ∧ HS M w0 w' (N' :: rest)) := by
  intro a dst pos af g K Q ha hK
  obtain ⟨hl, hv⟩ := hown
  rcases hv with ⟨rfl, rfl, rfl⟩ | ⟨b, off, cap, pre, sp, fr, rfl, rfl, hoff, hcap, hsp, hfr⟩
  · simp only [Oper.wp, execOp, resolve, invoke, builtin, Sem.run_bind, Sem.run_pure, Result.andThen_ok, List.map_toArray, List.map_cons, List.map_nil, ha _ _ hx]
    have hrun : (Builtin.clear_ #[t] ty #[Value.slice none 0 0]).run P w = .ok (.tuple #[]) w := by simp [Builtin.clear_, run_underlying ht]
    simp only [hrun]
    exact hK _ w ⟨[], cs, ⟨hl, .inl ⟨rfl, rfl, rfl⟩⟩, hH⟩
  · by_cases hn : n = 0
    · subst hn
      have hrun : (Builtin.clear_ #[t] ty #[Value.slice (some ⟨b, off, none⟩) 0 cap]).run P w = .ok (.tuple #[]) w := by simp [Builtin.clear_, run_underlying ht]
      simp only [Oper.wp, execOp, resolve, invoke, builtin, Sem.run_bind, Sem.run_pure, Result.andThen_ok, List.map_toArray, List.map_cons, List.map_nil, ha _ _ hx, hrun]
      exact hK _ w ⟨_, cs, ⟨hl, .inr ⟨b, off, cap, pre, sp, fr, rfl, rfl, hoff, hcap, hsp, hfr⟩⟩, hH⟩
    · have hb : w.heap[b]? = some (.cells (pre ++ cs ++ sp).toArray e fr) := hH.has _ List.mem_cons_self (b, _) (List.mem_singleton.2 rfl)
      obtain ⟨zs, hzs⟩ : ∃ zs, zs = (Builtin.zeroCells z.cells n).toList := ⟨_, rfl⟩
      have hzl : zs.length = n * k := by rw [hzs]; simp [Builtin.zeroCells, hz]
      have hz1 : ∀ u ∈ zs, u.oneCell' = true := fun u hu => by
        rw [hzs] at hu
        simp only [Builtin.zeroCells, Array.toList_map, List.mem_map] at hu
        obtain ⟨i, hi, rfl⟩ := hu
        rw [Array.toList_range, List.mem_range] at hi
        have hk0 : 0 < z.cells.size := Nat.pos_of_ne_zero fun h0 => by rw [h0] at hi; simp at hi
        have hm : i % z.cells.size < z.cells.size := Nat.mod_lt _ hk0
        rw [getElem!_pos z.cells _ hm]
        exact h1 _ (by simp)
      obtain ⟨w', e1, e2, e3, e4, e5, e6, e7⟩ := run_storeCells_own (P := P) b e fr zs (pre ++ cs ++ sp) off 0 w hb (by simp; omega) hfr hz1
      have hrun : (Builtin.clear_ #[t] ty #[Value.slice (some ⟨b, off, none⟩) n cap]).run P w = .ok (.tuple #[]) w' := by
        obtain ⟨m, rfl⟩ : ∃ m, n = m + 1 := ⟨n - 1, by omega⟩
        simp [Builtin.clear_, run_underlying ht, he.zero, ← hzs, e1]
      simp only [Oper.wp, execOp, resolve, invoke, builtin, Sem.run_bind, Sem.run_pure, Result.andThen_ok, List.map_toArray, List.map_cons, List.map_nil, ha _ _ hx, hrun]
      have hp : putAt (pre ++ cs ++ sp) off zs = pre ++ zs ++ sp := by
        rw [putAt_eq _ _ _ (by simp; omega), ← hoff]
        simp only [List.append_assoc]
        rw [List.take_left' rfl, ← List.append_assoc pre cs sp, List.drop_left' (by simp [hzl, hl])]
      refine hK _ w' ⟨[(b, .cells (pre ++ zs ++ sp).toArray e fr)], zs, ⟨hzl, .inr ⟨b, off, cap, pre, sp, fr, rfl, rfl, hoff, hcap, hsp, ?_⟩⟩, HS.turn hH e5 e6 e7 e4 (fun b' hb' => e3 b' fun e => hb' (b, _) (List.mem_singleton.2 rfl) e.symm) rfl fun p hp' => ?_⟩
      · have : (pre ++ zs ++ sp).length = (pre ++ cs ++ sp).length := by simp [hzl, hl]
        rw [this]; exact hfr
      · obtain rfl := List.mem_singleton.1 hp'
        rw [← hp]; simpa using e2
end Go.Proofs.YthhdilafnfcpbaaDoor
/- What a crash leaves, in memory. -/
namespace Go.Proofs.YthhdilafnfcpbaaDoor
open Go
set_option linter.unusedVariables false
set_option linter.unusedSimpArgs false
theorem Rd.piece0 {v : Value} {n k : Nat} {cs : List Value} (hs : Shp v n) (hi : Nat) (h2 : hi ≤ n) :
    ∃ v', (∀ a c, v = .slice a n c → v' = .slice (if c = 0 then a else a.map (·.add (0 * k))) (hi - 0) (c - 0)) ∧ ∀ M w, Rd M w v n k cs → Rd M w v' hi k (cs.take (hi * k)) := by
  obtain ⟨a, c, rfl, hc, _⟩ := hs
  refine ⟨_, fun a' c' e => by cases e; rfl, fun M w h => ?_⟩
  obtain ⟨v', hv, hb⟩ := Rd.cut h 0 hi (Nat.zero_le _) h2
  rw [hv a c rfl] at hb
  simpa using hb
theorem tpC_put {vs : Nat → Value} {f : Int} {d : Bool} {i : Nat} {a b c : Value} (hi : i < 4) : putAt (tpC vs f d) (3 * i) [a, b, c] = tpC (upd (upd (upd vs (3 * i) a) (3 * i + 1) b) (3 * i + 2) c) f d := by
  simp only [putAt]
  rw [tpC_set (by omega), tpC_set (by omega), tpC_set (by omega)]
theorem many_eq {ks : List Int} {i n : Nat} (h : i < ks.length) : (if (n : Int) < (if ks.getD i 0 < 0 then 0 else ks.getD i 0) then (n : Int) else (if ks.getD i 0 < 0 then 0 else ks.getD i 0)) = ((manyK ks i n : Nat) : Int) := by
  unfold manyK; rw [if_pos h]; split <;> split <;> omega
theorem many_no {ks : List Int} {i n : Nat} (h : ¬ i < ks.length) : manyK ks i n = 0 := if_neg h
theorem runB_cut {b : Bs} {op : List (Bool × Nat)} {j n : Nat} (h : op[j]? = some (true, n)) : runB b (op.take (j + 1)) = (runB b (op.take j)).take n := by
  rw [List.take_add_one, h, runB_append]; rfl
theorem runB_byte {b : Bs} {op : List (Bool × Nat)} {j c : Nat} (h : op[j]? = some (false, c)) : runB b (op.take (j + 1)) = runB b (op.take j) ++ [BitVec.ofNat 8 c] := by
  rw [List.take_add_one, h, runB_append]; rfl
theorem OpOk_at : ∀ {op : List (Bool × Nat)} {b : Bs} {j n : Nat}, OpOk b op → op[j]? = some (true, n) → n ≤ (runB b (op.take j)).length
  | [], _, _, _, _, h => by simp at h
  | (true, m) :: r, b, 0, n, h, he => by simp at he; subst he; exact h.1
  | (false, m) :: r, b, 0, n, h, he => by simp at he
  | (true, m) :: r, b, j + 1, n, h, he => OpOk_at (op := r) (j := j) h.2 (by simpa using he)
  | (false, m) :: r, b, j + 1, n, h, he => OpOk_at (op := r) (j := j) h.2 (by simpa using he)
theorem runB_len : ∀ (op : List (Bool × Nat)) (b : Bs), (runB b op).length ≤ b.length + op.length
  | [], b => by simp [runB]
  | (true, n) :: r, b => by have := runB_len r (b.take n); simp only [runB, List.length_cons, List.length_take] at this ⊢; omega
  | (false, c) :: r, b => by have := runB_len r (b ++ [BitVec.ofNat 8 c]); simp only [runB, List.length_cons, List.length_append, List.length_nil] at this ⊢; omega
/-- the first files -/
def FMs (U St : Nat) (vs : Nat → Value) (g : Nat → TF) : Nat → Hl → Prop
  | 0, N => N = []
  | i + 1, N => ∃ N1 N2, N = N1 ++ N2 ∧ FMs U St vs g i N1 ∧ FM U St vs i (g i) N2
theorem FMs.move {U St : Nat} {vs vs' : Nat → Value} {g : Nat → TF} : ∀ {i : Nat} {N : Hl}, FMs U St vs g i N → (∀ k, k < 3 * i → vs' k = vs k) → FMs U St vs' g i N
  | 0, _, h, _ => h
  | i + 1, _, ⟨N1, N2, e, h1, h2⟩, hv => ⟨N1, N2, e, FMs.move h1 fun k hk => hv k (by omega), h2.move (hv _ (by omega)) (hv _ (by omega)) (hv _ (by omega))⟩
theorem FMs.four {U St : Nat} {vs : Nat → Value} {g : Nat → TF} {N : Hl} (h : FMs U St vs g 4 N) : ∃ N0 N1 N2 N3, N = N0 ++ (N1 ++ (N2 ++ N3)) ∧ FM U St vs 0 (g 0) N0 ∧ FM U St vs 1 (g 1) N1 ∧ FM U St vs 2 (g 2) N2 ∧ FM U St vs 3 (g 3) N3 := by
  obtain ⟨_, N3, rfl, ⟨_, N2, rfl, ⟨_, N1, rfl, ⟨_, N0, rfl, rfl, a0⟩, a1⟩, a2⟩, a3⟩ := h
  exact ⟨N0, N1, N2, N3, by simp [List.append_assoc], a0, a1, a2, a3⟩
theorem FM.read {U St i : Nat} {vs : Nat → Value} {F : TF} {N : Hl} (h : FM U St vs i F N) : (∀ M w, RO M w N → By M w (vs (3 * i)) F.sure) ∧ ∀ M w, RO M w N → Rd M w (vs (3 * i + 2)) F.op.length 2 (cellsS F.op) := by
  obtain ⟨Ns, Nn, No, rfl, a, b, c⟩ := h
  exact ⟨fun M w hw => Own.ro a hw.left, fun M w hw => Own.ro c hw.right.right⟩
end Go.Proofs.YthhdilafnfcpbaaDoor
/- A tape's operations, one by one; a vault in memory. -/
namespace Go.Proofs.YthhdilafnfcpbaaDoor
open Go
set_option linter.unusedVariables false
set_option linter.unusedSimpArgs false
theorem app_1 {T : Tp} {i : Nat} {b : Bs} (h : T.down = true) : T.app i b = (100, T) := if_pos h
theorem app_2 {T : Tp} {i : Nat} {b : Bs} (h : T.down = false) (h2 : 1048576 < (T.fs i).now.length + b.length) : T.app i b = (90, T) := by
  unfold Tp.app; rw [if_neg (by rw [h]; decide), if_pos h2]
theorem app_3 {T : Tp} {i : Nat} {b : Bs} (h : T.down = false) (h2 : ¬ 1048576 < (T.fs i).now.length + b.length) : T.app i b = (if appK T.fuse b.length < b.length then 100 else 0, ⟨upd T.fs i ⟨(T.fs i).sure, (T.fs i).now ++ b.take (appK T.fuse b.length), (T.fs i).op ++ stp (b.take (appK T.fuse b.length))⟩, fz T.fuse (appK T.fuse b.length), decide (appK T.fuse b.length < b.length)⟩) := by
  unfold Tp.app; rw [if_neg (by rw [h]; decide), if_neg h2]
theorem cut_1 {T : Tp} {i n : Nat} (h : T.down = true ∨ T.fuse = 0) : T.cut i n = (100, ⟨T.fs, T.fuse, true⟩) := if_pos h
theorem cut_2 {T : Tp} {i n : Nat} (h : T.down = false) (h2 : ¬ T.fuse = 0) : T.cut i n = (0, ⟨upd T.fs i ⟨(T.fs i).sure, (T.fs i).now.take n, (T.fs i).op ++ [(true, n)]⟩, fz T.fuse 1, false⟩) := by
  unfold Tp.cut; rw [if_neg (by rw [h]; simpa using h2), h]
theorem sync_1 {T : Tp} {i : Nat} (h : T.down = true ∨ T.fuse = 0) : T.sync i = (100, ⟨T.fs, T.fuse, true⟩) := if_pos h
theorem sync_2 {T : Tp} {i : Nat} (h : T.down = false) (h2 : ¬ T.fuse = 0) : T.sync i = (0, ⟨upd T.fs i ⟨(T.fs i).now, (T.fs i).now, []⟩, fz T.fuse 1, false⟩) := by
  unfold Tp.sync; rw [if_neg (by rw [h]; simpa using h2), h]
def stgT (st : Nat → Tp → Nat × Tp) (T : Tp) : Nat → Tp
  | 0 => T
  | j + 1 => (st j (stgT st T j)).2
/-- a vault's cells -/
def vC (b_t g : Nat) (x r : Value) (d : Bool) : List Value := [.pointer (some ⟨b_t, 0, none⟩), I g, x, r, .bool d]
/-- a vault's memory, but for its tape -/
def VM (U R Vt b_v b_t : Nat) (V : Vs) (N : Hl) : Prop := ∃ x r Nx No Nd, N = [(b_v, Obj.cells (vC b_t V.gen x r V.down).toArray Vt (0, 0))] ++ (Nx ++ (No ++ Nd)) ∧ Ow B8 U x V.text Nx ∧ RowsH R r V.recs No Nd
end Go.Proofs.YthhdilafnfcpbaaDoor
/- Steps of a vault's calls, in a row. -/
namespace Go.Proofs.YthhdilafnfcpbaaDoor
open Go
set_option linter.unusedVariables false
set_option linter.unusedSimpArgs false
def stA (g : Nat) (l : Bs) : Nat → Tp → Nat × Tp
  | 0, T => T.app 0 (wf (rec' g l))
  | _ + 1, T => T.sync 0
def stR (n : Nat) : Nat → Tp → Nat × Tp
  | 0, T => T.cut 0 n
  | _ + 1, T => T.sync 0
def stS (g : Nat) (l : Bs) : Nat → Tp → Nat × Tp
  | 0, T => T.cut (slotG g) 0
  | 1, T => T.app (slotG g) (wf (rec' g l))
  | 2, T => T.sync (slotG g)
  | 3, T => T.cut 0 0
  | _ + 4, T => T.sync 0
def mendS (n : Nat) : Tp → Nat × Tp := andT (fun T => T.cut 0 n) (fun T => T.sync 0)
theorem addS_0 {g : Nat} {l : Bs} {T : Tp} (h : (stA g l 0 T).1 ≠ 0) : addS g l T = stA g l 0 T := andT_no h
theorem addS_1 {g : Nat} {l : Bs} {T : Tp} (h : ∀ m < 1, (stA g l m (stgT (stA g l) T m)).1 = 0) : addS g l T = stA g l 1 (stgT (stA g l) T 1) := andT_ok (h 0 (by decide))
theorem mendS_0 {n : Nat} {T : Tp} (h : (stR n 0 T).1 ≠ 0) : mendS n T = stR n 0 T := andT_no h
theorem mendS_1 {n : Nat} {T : Tp} (h : ∀ m < 1, (stR n m (stgT (stR n) T m)).1 = 0) : mendS n T = stR n 1 (stgT (stR n) T 1) := andT_ok (h 0 (by decide))
section
variable {g : Nat} {l : Bs} {T : Tp}
theorem saveS_0 (h : (stS g l 0 (stgT (stS g l) T 0)).1 ≠ 0) : saveS g l T = stS g l 0 (stgT (stS g l) T 0) := andT_no h
theorem saveS_1 (h : ∀ m < 1, (stS g l m (stgT (stS g l) T m)).1 = 0) (h1 : (stS g l 1 (stgT (stS g l) T 1)).1 ≠ 0) : saveS g l T = stS g l 1 (stgT (stS g l) T 1) := (andT_ok (h 0 (by decide))).trans (andT_no h1)
theorem saveS_2 (h : ∀ m < 2, (stS g l m (stgT (stS g l) T m)).1 = 0) (h1 : (stS g l 2 (stgT (stS g l) T 2)).1 ≠ 0) : saveS g l T = stS g l 2 (stgT (stS g l) T 2) := (andT_ok (h 0 (by decide))).trans ((andT_ok (h 1 (by decide))).trans (andT_no h1))
theorem saveS_3 (h : ∀ m < 3, (stS g l m (stgT (stS g l) T m)).1 = 0) (h1 : (stS g l 3 (stgT (stS g l) T 3)).1 ≠ 0) : saveS g l T = stS g l 3 (stgT (stS g l) T 3) := (andT_ok (h 0 (by decide))).trans ((andT_ok (h 1 (by decide))).trans ((andT_ok (h 2 (by decide))).trans (andT_no h1)))
theorem saveS_4 (h : ∀ m < 4, (stS g l m (stgT (stS g l) T m)).1 = 0) : saveS g l T = stS g l 4 (stgT (stS g l) T 4) := (andT_ok (h 0 (by decide))).trans ((andT_ok (h 1 (by decide))).trans ((andT_ok (h 2 (by decide))).trans (andT_ok (h 3 (by decide)))))
end
/-- a tape that is sound, and has so few steps open -/
structure Rdy (T : Tp) (B : Nat) : Prop where
  ok : T.Ok
  fz : T.fuse ≤ 9223372036854775807
  op : ∀ i, (T.fs i).op.length ≤ B
theorem Rdy.mono {T : Tp} {B B' : Nat} (h : Rdy T B) (hb : B ≤ B') : Rdy T B' := ⟨h.ok, h.fz, fun i => Nat.le_trans (h.op i) hb⟩
theorem Rdy.now {T : Tp} {B : Nat} (h : Rdy T B) (i : Nat) : (T.fs i).now.length ≤ 1048576 := (h.ok i).2.2.1
theorem Rdy.app {T : Tp} {B : Nat} (h : Rdy T B) (i : Nat) (b : Bs) : Rdy (T.app i b).2 (B + b.length) := by
  have hok := h.ok.app i b
  unfold Tp.app at hok ⊢
  split
  · exact h.mono (by omega)
  split
  · exact h.mono (by omega)
  · rename_i h1 h2
    rw [if_neg h1, if_neg h2] at hok
    refine ⟨hok, fz_lt h.fz, fun j => ?_⟩
    have hj := h.op j
    by_cases hji : j = i
    · subst hji
      have := appK_le T.fuse b.length
      simp only [upd_at, List.length_append, stp_length, List.length_take]; omega
    · simp only [upd_ne _ _ hji]; omega
theorem Rdy.cut {T : Tp} {B : Nat} (h : Rdy T B) (i : Nat) {n : Nat} (hn : n ≤ (T.fs i).now.length) : Rdy (T.cut i n).2 (B + 1) := by
  have hok := h.ok.cut i hn
  unfold Tp.cut at hok ⊢
  split
  · rename_i h1
    rw [if_pos h1] at hok
    exact ⟨hok, h.fz, fun j => by have := h.op j; show (T.fs j).op.length ≤ B + 1; omega⟩
  · rename_i h1
    rw [if_neg h1] at hok
    refine ⟨hok, fz_lt h.fz, fun j => ?_⟩
    have hj := h.op j
    by_cases hji : j = i
    · subst hji; simp only [upd_at, List.length_append, List.length_singleton]; omega
    · simp only [upd_ne _ _ hji]; omega
theorem Rdy.sync {T : Tp} {B : Nat} (h : Rdy T B) (i : Nat) : Rdy (T.sync i).2 B := by
  have hok := h.ok.sync i
  unfold Tp.sync at hok ⊢
  split
  · rename_i h1
    rw [if_pos h1] at hok
    exact ⟨hok, h.fz, h.op⟩
  · rename_i h1
    rw [if_neg h1] at hok
    refine ⟨hok, fz_lt h.fz, fun j => ?_⟩
    have hj := h.op j
    by_cases hji : j = i
    · subst hji; simp only [upd_at, List.length_nil]; omega
    · simp only [upd_ne _ _ hji]; omega
theorem Inv.rdy {T : Tp} {V : Vs} (h : Inv T V) (hf : T.fuse ≤ 9223372036854775807) : Rdy T 0 := ⟨h.ok, hf, fun i => by rw [h.op i]; exact Nat.le_refl _⟩
theorem vC_down {b g : Nat} {x r : Value} {d e : Bool} : (vC b g x r d).set 4 (.bool e) = vC b g x r e := rfl
theorem vC_gen {b g k : Nat} {x r : Value} {d : Bool} : (vC b g x r d).set 1 (I (k : Int)) = vC b k x r d := rfl
theorem vC_text {b g : Nat} {x r y : Value} {d : Bool} : (vC b g x r d).set 2 y = vC b g y r d := rfl
theorem vC_recs {b g : Nat} {x r y : Value} {d : Bool} : (vC b g x r d).set 3 y = vC b g x y d := rfl
theorem RowsH.one {E : Nat} {v : Value} {ls : List Bs} {Nr Nd : Hl} (h : RowsH E v ls Nr Nd) : v.oneCell' = true := by
  obtain ⟨vs, _, ho, _⟩ := h
  exact Own.one ho
theorem dec100 (n : Nat) : decide ((n : Int) = 100) = decide (n = 100) := decide_eq_decide.2 (by omega)
end Go.Proofs.YthhdilafnfcpbaaDoor
/- A vault is opened: what its walk needs in plain Lean. -/
namespace Go.Proofs.YthhdilafnfcpbaaDoor
open Go
set_option linter.unusedVariables false
set_option linter.unusedSimpArgs false
def jrk (g : Nat) (ls : List Bs) : List Bs := (ls.filter fun r => (unp r).1 == g).map fun r => (unp r).2.1
theorem jrk_len (g : Nat) (ls : List Bs) : (jrk g ls).length ≤ ls.length := by rw [jrk, List.length_map]; exact List.length_filter_le _ _
theorem jrk_snoc (g : Nat) (ls : List Bs) {k : Nat} (hk : k < ls.length) : jrk g (ls.take (k + 1)) = jrk g (ls.take k) ++ jrk g [ls.getD k []] := by
  rw [take_snoc (d := []) ls hk, jrk, List.filter_append, List.map_append]; rfl
theorem jrk_yes {g : Nat} {ls : List Bs} {k : Nat} (hk : k < ls.length) (h : (unp (ls.getD k [])).1 = g) : jrk g (ls.take (k + 1)) = jrk g (ls.take k) ++ [(unp (ls.getD k [])).2.1] := by
  rw [jrk_snoc g ls hk]
  congr 1
  rw [jrk, List.filter_cons_of_pos (p := fun r => (unp r).1 == g) (a := ls.getD k []) (l := []) (beq_iff_eq.2 h)]; rfl
theorem jrk_no {g : Nat} {ls : List Bs} {k : Nat} (hk : k < ls.length) (h : ¬ (unp (ls.getD k [])).1 = g) : jrk g (ls.take (k + 1)) = jrk g (ls.take k) := by
  rw [jrk_snoc g ls hk, show jrk g [ls.getD k []] = [] by rw [jrk, List.filter_cons_of_neg (p := fun r => (unp r).1 == g) (a := ls.getD k []) (l := []) (fun e => h (beq_iff_eq.1 e))]; rfl, List.append_nil]
theorem tw_stop {α : Type} {p : α → Bool} {d : α} : ∀ {ls : List α} {k : Nat}, k < ls.length → (∀ x ∈ ls.take k, p x = true) → p (ls.getD k d) = false → ls.takeWhile p = ls.take k
  | x :: r, 0, _, _, h => by
    have h : p x = false := h
    rw [List.takeWhile_cons, h]; rfl
  | x :: r, k + 1, hk, ha, h => by
    have h1 := ha x (by simp)
    rw [List.takeWhile_cons, h1]
    simp only [if_true, List.take_succ_cons]
    rw [tw_stop (ls := r) (k := k) (Nat.lt_of_succ_lt_succ hk) (fun y hy => ha y (by simp [hy])) h]
theorem ok_snoc {ls : List Bs} {k : Nat} (hk : k < ls.length) (ha : ∀ x ∈ ls.take k, recOk x = true) (h : recOk (ls.getD k []) = true) : ∀ x ∈ ls.take (k + 1), recOk x = true := fun x hx => by
  rw [take_snoc (d := []) ls hk] at hx
  rcases List.mem_append.1 hx with hx | hx
  · exact ha x hx
  · rw [List.mem_singleton.1 hx]; exact h
/-- the first record -/
theorem scan_none {l : Bs} (h : (scanV l).1.length = 0) : frV l = none := by
  rcases hf : frV l with _ | ⟨r, n⟩
  · rfl
  · exfalso
    obtain ⟨h1, h2, h3, h4⟩ := frV_det hf
    have h5 := wf_length r
    have h6 : scN l (0 + 1) = ([] ++ [r], 0 + n) := scN_some (l := l) (i := 0) (by simpa [scN] using hf)
    obtain ⟨t, ht⟩ := (scN_pre l 1 (l.length - 1)).1
    rw [show 1 + (l.length - 1) = l.length by omega, show (scN l 1).1 = [r] by rw [show (1 : Nat) = 0 + 1 from rfl, h6]; rfl] at ht
    have : (scanV l).1 = [r] ++ t := ht
    rw [this] at h; simp at h
theorem scan_some {l : Bs} (h : ¬ (scanV l).1.length = 0) : ∃ n, frV l = some ((scanV l).1.getD 0 [], n) := by
  rcases hf : frV l with _ | ⟨r, n⟩
  · exfalso
    apply h
    have h6 := scanV_of (l := l) (i := 0) (by simpa [scN] using hf)
    rw [h6]; rfl
  · obtain ⟨h1, h2, h3, h4⟩ := frV_det hf
    have h5 := wf_length r
    have h6 : scN l (0 + 1) = ([] ++ [r], 0 + n) := scN_some (l := l) (i := 0) (by simpa [scN] using hf)
    obtain ⟨t, ht⟩ := (scN_pre l 1 (l.length - 1)).1
    rw [show 1 + (l.length - 1) = l.length by omega, show (scN l 1).1 = [r] by rw [show (1 : Nat) = 0 + 1 from rfl, h6]; rfl] at ht
    have : (scanV l).1 = [r] ++ t := ht
    exact ⟨n, by rw [this]; rfl⟩
theorem slotP_first {i : Nat} {l : Bs} (h : ¬ (scanV l).1.length = 0) : slotP i l = if recOk ((scanV l).1.getD 0 []) = true ∧ 0 < (unp ((scanV l).1.getD 0 [])).1 ∧ (unp ((scanV l).1.getD 0 [])).1 % 2 = i % 2 then ((unp ((scanV l).1.getD 0 [])).1, (unp ((scanV l).1.getD 0 [])).2.1) else (0, []) := by
  obtain ⟨n, hn⟩ := scan_some h
  rw [slotP, hn]
/-- what is found up to a slot -/
def pkS (n : Nat → Bs) : Nat → Nat × Bs
  | 0 => (0, [])
  | 1 => (0, [])
  | 2 => slotP 1 (n 1)
  | _ + 3 => slv n
theorem pk_no {n : Nat → Bs} {J : Nat} (hJ : J = 1 ∨ J = 2) (h : slotP J (n J) = (0, []) ∨ (slotP J (n J)).1 ≤ (pkS n J).1) : pkS n (J + 1) = pkS n J := by
  rcases hJ with rfl | rfl
  · show slotP 1 (n 1) = (0, [])
    rcases h with h | h
    · exact h
    · rcases slotP_cases 1 (n 1) with c | c
      · exact c
      · have : (slotP 1 (n 1)).1 ≤ 0 := h
        omega
  · show pickV (slotP 1 (n 1)) (slotP 2 (n 2)) = slotP 1 (n 1)
    rw [pickV, if_neg]
    rcases h with h | h
    · rw [h]; simp
    · have : (slotP 2 (n 2)).1 ≤ (slotP 1 (n 1)).1 := h
      omega
theorem pk_yes {n : Nat → Bs} {J : Nat} (hJ : J = 1 ∨ J = 2) (h : (pkS n J).1 < (slotP J (n J)).1) : pkS n (J + 1) = slotP J (n J) := by
  rcases hJ with rfl | rfl
  · rfl
  · show pickV (slotP 1 (n 1)) (slotP 2 (n 2)) = slotP 2 (n 2)
    have : (slotP 1 (n 1)).1 < (slotP 2 (n 2)).1 := h
    rw [pickV, if_pos this]
theorem slotG_par {g J : Nat} (hJ : J = 1 ∨ J = 2) : slotG g = J ↔ g % 2 = J % 2 := by
  unfold slotG; rcases hJ with rfl | rfl <;> omega
theorem slotP_le {l : Bs} {J gg : Nat} (hJ : J = 1 ∨ J = 2) (hne : ¬ (scanV l).1.length = 0) (h : ¬ (recOk ((scanV l).1.getD 0 []) = true ∧ gg < (unp ((scanV l).1.getD 0 [])).1 ∧ slotG (unp ((scanV l).1.getD 0 [])).1 = J)) : slotP J l = (0, []) ∨ (slotP J l).1 ≤ gg := by
  rw [slotP_first hne]
  generalize (scanV l).1.getD 0 [] = y at *
  by_cases h2 : recOk y = true ∧ 0 < (unp y).1 ∧ (unp y).1 % 2 = J % 2
  · rw [if_pos h2]
    right
    show (unp y).1 ≤ gg
    refine Nat.le_of_not_lt fun h3 => h ⟨h2.1, h3, (slotG_par hJ).2 h2.2.2⟩
  · rw [if_neg h2]; exact .inl rfl
theorem slotP_is {l : Bs} {J : Nat} (hJ : J = 1 ∨ J = 2) (hne : ¬ (scanV l).1.length = 0) (h1 : recOk ((scanV l).1.getD 0 []) = true) (h2 : 0 < (unp ((scanV l).1.getD 0 [])).1) (h3 : slotG (unp ((scanV l).1.getD 0 [])).1 = J) : slotP J l = ((unp ((scanV l).1.getD 0 [])).1, (unp ((scanV l).1.getD 0 [])).2.1) := by
  rw [slotP_first hne, if_pos ⟨h1, h2, (slotG_par hJ).1 h3⟩]
theorem unp_le (l : Bs) : (unp l).1 ≤ 1099511627776 := rNum_le 1099511627776 (l, 0)
theorem opnT_of {T : Tp} {g : Nat} {t : Bs} (h : pkS (fun j => (T.fs j).now) 3 = (g, t)) : opnT T = ⟨g, t, jrecs g (T.fs 0).now, false⟩ := by
  have q : pickV (slotP 1 (T.fs 1).now) (slotP 2 (T.fs 2).now) = (g, t) := h
  simp only [opnT, opnV, q]
theorem pk_up {n : Nat → Bs} {J gg : Nat} {tt : Bs} {rs : List Bs} (hJ : J = 1 ∨ J = 2) (hpk : pkS n J = (gg, tt)) (hne : ¬ (scanV (n J)).1.length = 0) (hrs : rs = (scanV (n J)).1) (h1 : recOk (rs.getD 0 []) = true) (h2 : gg < (unp (rs.getD 0 [])).1) (h3 : slotG (unp (rs.getD 0 [])).1 = J) : pkS n (J + 1) = ((unp (rs.getD 0 [])).1, (unp (rs.getD 0 [])).2.1) := by
  subst hrs
  have hsl := slotP_is (l := n J) hJ hne h1 (by omega) h3
  rw [pk_yes hJ (by rw [hpk, hsl]; exact h2), hsl]
theorem pk_same {n : Nat → Bs} {J gg : Nat} {tt : Bs} {rs : List Bs} (hJ : J = 1 ∨ J = 2) (hpk : pkS n J = (gg, tt)) (hne : ¬ (scanV (n J)).1.length = 0) (hrs : rs = (scanV (n J)).1) (h : ¬ (recOk (rs.getD 0 []) = true ∧ gg < (unp (rs.getD 0 [])).1 ∧ slotG (unp (rs.getD 0 [])).1 = J)) : pkS n (J + 1) = (gg, tt) := by
  subst hrs
  rw [pk_no hJ (by rw [hpk]; exact slotP_le hJ hne h), hpk]
end Go.Proofs.YthhdilafnfcpbaaDoor
/- A vault's calls in plain Lean, case by case; a vault as one piece of memory. -/
namespace Go.Proofs.YthhdilafnfcpbaaDoor
open Go
set_option linter.unusedVariables false
set_option linter.unusedSimpArgs false
structure VOk (V : Vs) : Prop where
  gl : V.gen ≤ 1099511627776
  tl : V.text.length ≤ 262144
  rl : ∀ y ∈ V.recs, y.length ≤ 262144
  rn : V.recs.length ≤ 1000000
theorem addV_1 {T : Tp} {V : Vs} {b : Bs} (h : V.down = true) : addV T V b = (100, T, V) := if_pos h
theorem addV_2 {T : Tp} {V : Vs} {b : Bs} (h : V.down = false) (h2 : 262080 < b.length) : addV T V b = (42, T, V) := by
  unfold addV; rw [if_neg (by rw [h]; decide), if_pos h2]
theorem addV_3 {T : Tp} {V : Vs} {b : Bs} (h : V.down = false) (h2 : ¬ 262080 < b.length) : addV T V b = ((addS V.gen b T).1, (addS V.gen b T).2, if (addS V.gen b T).1 = 0 then ⟨V.gen, V.text, V.recs ++ [b], false⟩ else ⟨V.gen, V.text, V.recs, decide ((addS V.gen b T).1 = 100)⟩) := by
  unfold addV; rw [if_neg (by rw [h]; decide), if_neg h2]
theorem saveV_1 {T : Tp} {V : Vs} {b : Bs} (h : V.down = true) : saveV T V b = (100, T, V) := if_pos h
theorem saveV_2 {T : Tp} {V : Vs} {b : Bs} (h : V.down = false) (h2 : 262080 < b.length) : saveV T V b = (42, T, V) := by
  unfold saveV; rw [if_neg (by rw [h]; decide), if_pos h2]
theorem saveV_3 {T : Tp} {V : Vs} {b : Bs} (h : V.down = false) (h2 : ¬ 262080 < b.length) (h3 : V.gen = 1099511627776) : saveV T V b = (90, T, V) := by
  unfold saveV; rw [if_neg (by rw [h]; decide), if_neg h2, if_pos h3]
theorem saveV_4 {T : Tp} {V : Vs} {b : Bs} (h : V.down = false) (h2 : ¬ 262080 < b.length) (h3 : ¬ V.gen = 1099511627776) : saveV T V b = ((saveS (V.gen + 1) b T).1, (saveS (V.gen + 1) b T).2, if (saveS (V.gen + 1) b T).1 = 0 then ⟨V.gen + 1, b, [], false⟩ else ⟨V.gen, V.text, V.recs, decide ((saveS (V.gen + 1) b T).1 = 100)⟩) := by
  unfold saveV; rw [if_neg (by rw [h]; decide), if_neg h2, if_neg h3]
section
variable {M : List Nat} {w0 w : World} {n a x o d : Hl}
theorem vsplit (h : HS M w0 w [n, a ++ (x ++ (o ++ d))]) : HS M w0 w [n, a, o, d, x] := by
  have h1 := (h.pick [1, 0] (Hs' := [_, _]) rfl).split
  have h2 := (h1.pick [1, 0, 2] (Hs' := [_, _, _]) rfl).split
  have h3 := (h2.pick [1, 0, 2, 3] (Hs' := [_, _, _, _]) rfl).split
  exact h3.pick [4, 3, 0, 1, 2] (Hs' := [n, a, o, d, x]) rfl
theorem vjoin (h : HS M w0 w [n, a, o, d, x]) : HS M w0 w [n, a ++ (x ++ (o ++ d))] := by
  have h1 := (h.pick [2, 3, 4, 1, 0] (Hs' := [o, d, x, a, n]) rfl).join
  have h2 := (h1.pick [1, 0, 2, 3] (Hs' := [x, o ++ d, a, n]) rfl).join
  have h3 := (h2.pick [1, 0, 2] (Hs' := [a, x ++ (o ++ d), n]) rfl).join
  exact h3.pick [1, 0] (Hs' := [n, a ++ (x ++ (o ++ d))]) rfl
end
def genO (V : Vs) : Nat := if V.down = true then 0 else V.gen
def textO (V : Vs) : Bs := if V.down = true then [] else V.text
def recsO (V : Vs) : List Bs := if V.down = true then [] else V.recs
theorem outs_f {V : Vs} (h : V.down = false) : genO V = V.gen ∧ textO V = V.text ∧ recsO V = V.recs := by
  unfold genO textO recsO; rw [h]; exact ⟨rfl, rfl, rfl⟩
theorem outs_t {V : Vs} (h : V.down = true) : genO V = 0 ∧ textO V = [] ∧ recsO V = [] := by
  unfold genO textO recsO; rw [h]; exact ⟨rfl, rfl, rfl⟩
/-- the document's vault in memory -/
def mC (g : Nat) (x r : Value) : List Value := [I g, x, r]
def MM (U R Mt b_m : Nat) (g : Nat) (text : Bs) (recs : List Bs) (N : Hl) : Prop := ∃ x r Nx No Nd, N = [(b_m, Obj.cells (mC g x r).toArray Mt (0, 0))] ++ (Nx ++ (No ++ Nd)) ∧ Ow B8 U x text Nx ∧ RowsH R r recs No Nd
theorem mC_gen {g k : Nat} {x r : Value} : (mC g x r).set 0 (I (k : Int)) = mC k x r := rfl
theorem mC_text {g : Nat} {x r y : Value} : (mC g x r).set 1 y = mC g y r := rfl
theorem mC_recs {g : Nat} {x r y : Value} : (mC g x r).set 2 y = mC g x y := rfl
end Go.Proofs.YthhdilafnfcpbaaDoor
/- Sizes; a new tape, a crash, where nothing is under way. -/
namespace Go.Proofs.YthhdilafnfcpbaaDoor
open Go
set_option linter.unusedVariables false
set_option linter.unusedSimpArgs false
def Sz (T : Tp) (B : Nat) : Prop := ∀ i, (T.fs i).now.length ≤ B
theorem Sz.mono {T : Tp} {B B' : Nat} (h : Sz T B) (hb : B ≤ B') : Sz T B' := fun i => Nat.le_trans (h i) hb
theorem Sz.upd {T : Tp} {B B' : Nat} (h : Sz T B) (hb : B ≤ B') {i : Nat} {F : TF} (hF : F.now.length ≤ B') (f : Int) (d : Bool) : Sz ⟨upd T.fs i F, f, d⟩ B' := fun j => by
  by_cases hj : j = i
  · subst hj; simpa using hF
  · simp only [upd_ne _ _ hj]; exact Nat.le_trans (h j) hb
theorem Sz.app {T : Tp} {B : Nat} (h : Sz T B) (i : Nat) (b : Bs) : Sz (T.app i b).2 (B + b.length) := by
  unfold Tp.app
  split
  · exact h.mono (by omega)
  split
  · exact h.mono (by omega)
  · have hi := h i
    exact h.upd (by omega) (by simp only [List.length_append, List.length_take]; omega) _ _
theorem Sz.cut {T : Tp} {B : Nat} (h : Sz T B) (i n : Nat) : Sz (T.cut i n).2 B := by
  unfold Tp.cut
  split
  · exact h
  · have hi := h i
    exact h.upd (Nat.le_refl _) (by simp only [List.length_take]; omega) _ _
theorem Sz.sync {T : Tp} {B : Nat} (h : Sz T B) (i : Nat) : Sz (T.sync i).2 B := by
  unfold Tp.sync
  split
  · exact h
  · exact h.upd (F := ⟨(T.fs i).now, (T.fs i).now, []⟩) (Nat.le_refl _) (h i) _ _
theorem Sz.and {s1 s2 : Tp → Nat × Tp} {T : Tp} {B1 B2 : Nat} (h1 : Sz (s1 T).2 B1) (hb : B1 ≤ B2) (h2 : Sz (s1 T).2 B1 → Sz (s2 (s1 T).2).2 B2) : Sz (andT s1 s2 T).2 B2 := by
  unfold andT
  split
  · exact h1.mono hb
  · exact h2 h1
theorem Sz.addS {T : Tp} {B : Nat} (h : Sz T B) (g : Nat) (b : Bs) : Sz (addS g b T).2 (B + (wf (rec' g b)).length) :=
  Sz.and (h.app 0 _) (Nat.le_refl _) fun h => h.sync 0
theorem Sz.saveS {T : Tp} {B : Nat} (h : Sz T B) (g : Nat) (b : Bs) : Sz (saveS g b T).2 (B + (wf (rec' g b)).length) :=
  Sz.and (h.cut _ 0) (Nat.le_add_right _ _) fun h => Sz.and (h.app _ _) (Nat.le_refl _) fun h => Sz.and (h.sync _) (Nat.le_refl _) fun h => Sz.and (h.cut 0 0) (Nat.le_refl _) fun h => h.sync 0
theorem Sz.addV {T : Tp} {B : Nat} {V : Vs} {b : Bs} (h : Sz T B) (hg : V.gen ≤ 1099511627776) : Sz (addV T V b).2.1 (B + b.length + 35) := by
  unfold Go.Proofs.YthhdilafnfcpbaaDoor.addV
  split
  · exact h.mono (by omega)
  split
  · exact h.mono (by omega)
  · have := wf_len (b := b) hg (by omega)
    exact (h.addS V.gen b).mono (by omega)
theorem Sz.saveV {T : Tp} {B : Nat} {V : Vs} {b : Bs} (h : Sz T B) (hg : V.gen ≤ 1099511627776) : Sz (saveV T V b).2.1 (B + b.length + 35) := by
  unfold Go.Proofs.YthhdilafnfcpbaaDoor.saveV
  split
  · exact h.mono (by omega)
  split
  · exact h.mono (by omega)
  split
  · exact h.mono (by omega)
  · have := wf_len (g := V.gen + 1) (b := b) (by omega) (by omega)
    exact (h.saveS (V.gen + 1) b).mono (by omega)
def newT : Tp := ⟨fun _ => ⟨[], [], []⟩, -1, false⟩
def newV : Vs := ⟨0, [], [], false⟩
theorem Inv_new : Inv newT newV := by
  refine ⟨rfl, rfl, fun i => ⟨rfl, trivial, Nat.zero_le _, Nat.zero_le _⟩, fun _ => rfl, ?_, ⟨[], rfl, (fun k hk => by cases hk), (fun k hk => by cases hk), rfl⟩, by decide⟩
  show pickV (slotP 1 []) (slotP 2 []) = (0, [])
  rw [slotP_none frV_nil, slotP_none frV_nil]; rfl
theorem Inv.now_kept {T : Tp} {V : Vs} (h : Inv T V) (ks : List Int) (i : Nat) : T.kept ks i = (T.fs i).now := by rw [kept_no (h.op i), h.sure i]
theorem Inv.crash {T : Tp} {V : Vs} (h : Inv T V) (ks : List Int) : Inv (T.crash ks) V := by
  have hk := h.now_kept ks
  have hl := fun i => (h.ok i).2.2.1
  refine ⟨rfl, h.vd, fun i => ⟨rfl, trivial, ?_, ?_⟩, fun _ => rfl, ?_, ?_, h.gl⟩
  · show (T.kept ks i).length ≤ _; rw [hk]; exact hl i
  · show (T.kept ks i).length ≤ _; rw [hk]; exact hl i
  · show slv (fun i => T.kept ks i) = _; rw [show (fun i => T.kept ks i) = fun i => (T.fs i).now from funext hk]; exact h.sl
  · show ∃ ks', T.kept ks 0 = _ ∧ _; rw [hk]; exact h.jn
theorem Sz.crash {T : Tp} {V : Vs} {B : Nat} (h : Inv T V) (hs : Sz T B) (ks : List Int) : Sz (T.crash ks) B := fun i => by
  show (T.kept ks i).length ≤ B; rw [h.now_kept]; exact hs i
theorem rText_le (m : Nat) (s : RS) : (rText m s).1.length ≤ m := by
  unfold rText
  split
  · exact Nat.zero_le _
  split
  · exact Nat.zero_le _
  split
  · exact Nat.zero_le _
  · rename_i h _
    simp only [List.length_take]; omega
theorem slotP_len (i : Nat) (l : Bs) : (slotP i l).2.length ≤ 262144 := by
  unfold slotP
  split
  · exact Nat.zero_le _
  · split
    · exact rText_le 262144 _
    · exact Nat.zero_le _
theorem slv_len (n : Nat → Bs) : (slv n).2.length ≤ 262144 := by
  unfold slv pickV
  split
  · exact slotP_len _ _
  · exact slotP_len _ _
theorem Inv.vok {T : Tp} {V : Vs} (h : Inv T V) : VOk V := by
  obtain ⟨ks, j1, j2, j3, j4⟩ := h.jn
  refine ⟨h.gl, ?_, ?_, ?_⟩
  · have := slv_len (fun i => (T.fs i).now); rw [h.sl] at this; exact this
  · intro y hy
    rw [← j4] at hy
    obtain ⟨k, hk, rfl⟩ := List.mem_map.1 hy
    have := (j2 k (List.mem_filter.1 hk).1).2
    omega
  · have h1 := scanV_frames j2.len
    have h2 := scN_count (wfs (recsOf ks)) (wfs (recsOf ks)).length
    have h3 : (scanV (wfs (recsOf ks))).1 = recsOf ks := by rw [h1]
    have h4 : (scanV (wfs (recsOf ks))).2 = (wfs (recsOf ks)).length := by rw [h1]
    have h5 : 9 * (recsOf ks).length ≤ (wfs (recsOf ks)).length := by
      rw [← h4]; conv => lhs; rw [← h3]
      exact h2
    have h6 := (h.ok 0).2.2.1
    rw [j1] at h6
    have h7 : (recsOf ks).length = ks.length := List.length_map ..
    have h8 : (filt V.gen ks).length ≤ ks.length := by unfold filt; rw [List.length_map]; exact List.length_filter_le _ _
    rw [← j4]; omega
theorem RdR.one {M : List Nat} {w : World} {v x : Value} {l : Bs} (h : Rd M w v 1 1 [x]) (hx : By M w x l) : RdR M w v [l] :=
  ⟨[x], rfl, h, fun i hi => by
    have : i = 0 := by simp at hi; omega
    subst this; exact hx⟩
theorem outs_len {V : Vs} (h : VOk V) : (textO V).length ≤ 262144 ∧ (∀ y ∈ recsO V, y.length ≤ 4194304) ∧ (recsO V).length ≤ 1000000 := by
  obtain ⟨_, h1, h2, h3⟩ := h
  unfold textO recsO
  by_cases hd : V.down = true
  · rw [if_pos hd, if_pos hd]; exact ⟨Nat.zero_le _, (fun y hy => by cases hy), Nat.zero_le _⟩
  · rw [if_neg hd, if_neg hd]; exact ⟨h1, fun y hy => Nat.le_trans (h2 y hy) (by decide), h3⟩
theorem Rdy.mend {T : Tp} {B : Nat} (h : Rdy T B) : Rdy (mend T).2 (B + 1) := by
  unfold Go.Proofs.YthhdilafnfcpbaaDoor.mend
  split
  · exact h.mono (by omega)
  · unfold andT
    split
    · exact h.cut 0 (jgood_le _)
    · exact (h.cut 0 (jgood_le _)).sync 0
end Go.Proofs.YthhdilafnfcpbaaDoor
/- Calls, as the laws' rows of arguments. -/
namespace Go.Proofs.YthhdilafnfcpbaaDoor
open Go
set_option linter.unusedVariables false
/-- a call: what it is, its bytes, what is kept -/
structure CallE where
  kd : Int
  bv : Value
  kv : Value
  b : Bs
  ks : List Int
def cellsK (e : CallE) : List Value := [I e.kd, e.bv, e.kv]
theorem cellsK_length (e : CallE) : (cellsK e).length = 3 := rfl
def ClOk (M : List Nat) (w : World) (e : CallE) : Prop := By M w e.bv e.b ∧ Rm I M w e.kv e.ks ∧ e.b.length + e.ks.length ≤ 1048576
def RdCl (M : List Nat) (w : World) (v : Value) (cl : List CallE) : Prop := Rd M w v cl.length 3 (cl.map cellsK).flatten ∧ ∀ e ∈ cl, ClOk M w e
theorem HS.rdCl {M : List Nat} {w0 w : World} {Hs : List Hl} {v : Value} {cl : List CallE} (hH : HS M w0 w Hs) (h : RdCl M w0 v cl) : RdCl [] w v cl :=
  ⟨hH.rd h.1, fun e he => by obtain ⟨h1, h2, h3⟩ := h.2 e he; exact ⟨hH.rd h1, hH.rd h2, h3⟩⟩
theorem RdCl.get {M : List Nat} {w : World} {v : Value} {cl : List CallE} (h : RdCl M w v cl) {i : Nat} (hi : i < cl.length) :
    ∃ e ∈ cl, cl[i]? = some e ∧ ((cl.map cellsK).flatten.drop (i * 3)).take 3 = cellsK e ∧ (cl.map cellsK).flatten[i * 3 + 0]? = some (I e.kd) ∧ (cl.map cellsK).flatten[i * 3 + 1]? = some e.bv ∧ (cl.map cellsK).flatten[i * 3 + 2]? = some e.kv ∧ ClOk M w e := by
  have h1 := flat_at cellsK (k := 3) (fun e _ => cellsK_length e) hi
  have hc : ∀ j, j < 3 → ((cl.map cellsK).flatten)[i * 3 + j]? = (cellsK cl[i])[j]? := fun j hj => by
    rw [← h1, List.getElem?_take, if_pos hj, List.getElem?_drop]
  exact ⟨cl[i], List.getElem_mem hi, List.getElem?_eq_getElem hi, h1, hc 0 (by decide), hc 1 (by decide), hc 2 (by decide), h.2 cl[i] (List.getElem_mem hi)⟩
end Go.Proofs.YthhdilafnfcpbaaDoor
/- Calls with a fuse: where they lead, and what a crash leaves. -/
namespace Go.Proofs.YthhdilafnfcpbaaDoor
open Go
set_option linter.unusedVariables false
set_option linter.unusedSimpArgs false
/-- what there is, and what is sure, are so small -/
def Sz2 (T : Tp) (B : Nat) : Prop := ∀ i, (T.fs i).now.length ≤ B ∧ (T.fs i).sure.length ≤ B
theorem Sz2.sz {T : Tp} {B : Nat} (h : Sz2 T B) : Sz T B := fun i => (h i).1
theorem Sz2.mono {T : Tp} {B B' : Nat} (h : Sz2 T B) (hb : B ≤ B') : Sz2 T B' := fun i => ⟨Nat.le_trans (h i).1 hb, Nat.le_trans (h i).2 hb⟩
theorem Sz2.upd {T : Tp} {B B' : Nat} (h : Sz2 T B) (hb : B ≤ B') {i : Nat} {F : TF} (hF : F.now.length ≤ B') (hG : F.sure.length ≤ B') (f : Int) (d : Bool) : Sz2 ⟨upd T.fs i F, f, d⟩ B' := fun j => by
  by_cases hj : j = i
  · subst hj; simp only [upd_at]; exact ⟨hF, hG⟩
  · simp only [upd_ne _ _ hj]; exact ⟨Nat.le_trans (h j).1 hb, Nat.le_trans (h j).2 hb⟩
theorem Sz2.app {T : Tp} {B : Nat} (h : Sz2 T B) (i : Nat) (b : Bs) : Sz2 (T.app i b).2 (B + b.length) := by
  unfold Tp.app
  split
  · exact h.mono (by omega)
  split
  · exact h.mono (by omega)
  · have hi := h i
    exact h.upd (F := ⟨(T.fs i).sure, _, _⟩) (by omega) (by show (List.append _ _).length ≤ _; rw [List.append_eq, List.length_append, List.length_take]; omega) (by show (T.fs i).sure.length ≤ _; omega) _ _
theorem Sz2.cut {T : Tp} {B : Nat} (h : Sz2 T B) (i n : Nat) : Sz2 (T.cut i n).2 B := by
  unfold Tp.cut
  split
  · exact h
  · have hi := h i
    exact h.upd (F := ⟨(T.fs i).sure, (T.fs i).now.take n, _⟩) (Nat.le_refl _) (by show ((T.fs i).now.take n).length ≤ B; rw [List.length_take]; omega) hi.2 _ _
theorem Sz2.sync {T : Tp} {B : Nat} (h : Sz2 T B) (i : Nat) : Sz2 (T.sync i).2 B := by
  unfold Tp.sync
  split
  · exact h
  · exact h.upd (F := ⟨(T.fs i).now, (T.fs i).now, []⟩) (Nat.le_refl _) (h i).1 (h i).1 _ _
theorem Sz2.and {s1 s2 : Tp → Nat × Tp} {T : Tp} {B1 B2 : Nat} (h1 : Sz2 (s1 T).2 B1) (hb : B1 ≤ B2) (h2 : Sz2 (s1 T).2 B1 → Sz2 (s2 (s1 T).2).2 B2) : Sz2 (andT s1 s2 T).2 B2 := by
  unfold andT
  split
  · exact h1.mono hb
  · exact h2 h1
theorem Sz2.addS {T : Tp} {B : Nat} (h : Sz2 T B) (g : Nat) (b : Bs) : Sz2 (addS g b T).2 (B + (wf (rec' g b)).length) :=
  Sz2.and (h.app 0 _) (Nat.le_refl _) fun h => h.sync 0
theorem Sz2.saveS {T : Tp} {B : Nat} (h : Sz2 T B) (g : Nat) (b : Bs) : Sz2 (saveS g b T).2 (B + (wf (rec' g b)).length) :=
  Sz2.and (h.cut _ 0) (Nat.le_add_right _ _) fun h => Sz2.and (h.app _ _) (Nat.le_refl _) fun h => Sz2.and (h.sync _) (Nat.le_refl _) fun h => Sz2.and (h.cut 0 0) (Nat.le_refl _) fun h => h.sync 0
theorem Sz2.addV {T : Tp} {B : Nat} {V : Vs} {b : Bs} (h : Sz2 T B) (hg : V.gen ≤ 1099511627776) : Sz2 (addV T V b).2.1 (B + b.length + 35) := by
  unfold Go.Proofs.YthhdilafnfcpbaaDoor.addV
  split
  · exact h.mono (by omega)
  split
  · exact h.mono (by omega)
  · have := wf_len (b := b) hg (by omega)
    exact (h.addS V.gen b).mono (by omega)
theorem Sz2.saveV {T : Tp} {B : Nat} {V : Vs} {b : Bs} (h : Sz2 T B) (hg : V.gen ≤ 1099511627776) : Sz2 (saveV T V b).2.1 (B + b.length + 35) := by
  unfold Go.Proofs.YthhdilafnfcpbaaDoor.saveV
  split
  · exact h.mono (by omega)
  split
  · exact h.mono (by omega)
  split
  · exact h.mono (by omega)
  · have := wf_len (g := V.gen + 1) (b := b) (by omega) (by omega)
    exact (h.saveS (V.gen + 1) b).mono (by omega)
theorem Rdy.and {s1 s2 : Tp → Nat × Tp} {T : Tp} {B1 B2 : Nat} (h1 : Rdy (s1 T).2 B1) (hb : B1 ≤ B2) (h2 : Rdy (s1 T).2 B1 → Rdy (s2 (s1 T).2).2 B2) : Rdy (andT s1 s2 T).2 B2 := by
  unfold andT
  split
  · exact h1.mono hb
  · exact h2 h1
theorem Rdy.addS {T : Tp} {B : Nat} (h : Rdy T B) (g : Nat) (b : Bs) : Rdy (addS g b T).2 (B + (wf (rec' g b)).length) :=
  Rdy.and (h.app 0 _) (Nat.le_refl _) fun h => h.sync 0
theorem Rdy.saveS {T : Tp} {B : Nat} (h : Rdy T B) (g : Nat) (b : Bs) : Rdy (saveS g b T).2 (B + 1 + (wf (rec' g b)).length + 1) :=
  Rdy.and (h.cut _ (Nat.zero_le _)) (by omega) fun h => Rdy.and (h.app _ _) (Nat.le_succ _) fun h => Rdy.and (h.sync _) (Nat.le_succ _) fun h => Rdy.and (h.cut 0 (Nat.zero_le _)) (Nat.le_refl _) fun h => h.sync 0
theorem Rdy.addV {T : Tp} {B : Nat} {V : Vs} {b : Bs} (h : Rdy T B) (hg : V.gen ≤ 1099511627776) : Rdy (addV T V b).2.1 (B + b.length + 37) := by
  unfold Go.Proofs.YthhdilafnfcpbaaDoor.addV
  split
  · exact h.mono (by omega)
  split
  · exact h.mono (by omega)
  · have := wf_len (b := b) hg (by omega)
    exact (h.addS V.gen b).mono (by omega)
theorem Rdy.saveV {T : Tp} {B : Nat} {V : Vs} {b : Bs} (h : Rdy T B) (hg : V.gen ≤ 1099511627776) : Rdy (saveV T V b).2.1 (B + b.length + 37) := by
  unfold Go.Proofs.YthhdilafnfcpbaaDoor.saveV
  split
  · exact h.mono (by omega)
  split
  · exact h.mono (by omega)
  split
  · exact h.mono (by omega)
  · have := wf_len (g := V.gen + 1) (b := b) (by omega) (by omega)
    exact (h.saveS (V.gen + 1) b).mono (by omega)
theorem addV_all {T : Tp} {V : Vs} {b : Bs} (h : ¬ (addV T V b).1 = 0) : (addV T V b).2.2.all = V.all := by
  unfold addV at h ⊢
  split
  · rfl
  split
  · rfl
  · rename_i h1 h2
    rw [if_neg h1, if_neg h2] at h
    simp only [if_neg h]; rfl
theorem VOk.all {V V' : Vs} (h : VOk V) (e : V'.all = V.all) : VOk V' := by
  obtain ⟨g, t, r, d⟩ := V
  obtain ⟨g', t', r', d'⟩ := V'
  obtain ⟨rfl, rfl, rfl⟩ : g' = g ∧ t' = t ∧ r' = r := by simpa [Vs.all] using e
  exact ⟨h.gl, h.tl, h.rl, h.rn⟩
theorem Inv.fuse {T : Tp} {V : Vs} (h : Inv T V) (f : Int) : Inv ⟨T.fs, f, T.down⟩ V := ⟨h.dn, h.vd, h.ok, h.op, h.sl, h.jn, h.gl⟩
/-- a tape with a fuse, and its vault, behind so many calls -/
structure Wk (T : Tp) (V : Vs) (n : Nat) : Prop where
  st : (Inv T V ∧ V.gen ≤ n) ∨ (V.down = true ∧ T.down = true)
  rdy : Rdy T 600
  sz : Sz2 T (535 * n)
  vok : VOk V
theorem Wk.mono {T : Tp} {V : Vs} {n m : Nat} (h : Wk T V n) (hm : n ≤ m) : Wk T V m :=
  ⟨h.st.imp (fun x => ⟨x.1, Nat.le_trans x.2 hm⟩) id, h.rdy, h.sz.mono (by omega), h.vok⟩
theorem Wk.new {f : Int} (hf : f ≤ 9223372036854775807) : Wk ⟨newT.fs, f, newT.down⟩ newV 0 :=
  ⟨.inl ⟨Inv_new.fuse f, Nat.le_refl _⟩, ((Inv_new.fuse f).rdy hf).mono (by decide), fun _ => ⟨Nat.le_refl _, Nat.le_refl _⟩, Inv_new.vok⟩
theorem Wk.add {T : Tp} {V : Vs} {n : Nat} {b : Bs} (h : Wk T V n) (hb : b.length ≤ 500) (hn : n ≤ 100) : Wk (addV T V b).2.1 (addV T V b).2.2 (n + 1) := by
  have hs : Sz2 (addV T V b).2.1 (535 * (n + 1)) := (h.sz.addV h.vok.gl).mono (by omega)
  rcases h.st with ⟨hI, hg⟩ | ⟨h1, h2⟩
  · have hz := (h.sz 0).1
    have hfz := (h.rdy.addV (b := b) h.vok.gl).fz
    rcases add_inv hI (b := b) (by omega) (by omega) with ⟨a1, a2, a3, _, _⟩ | ⟨a1, a2, a3, a4, _, _⟩
    · rw [a2]
      exact ⟨.inl ⟨a3, by show V.gen ≤ _; omega⟩, (a3.rdy hfz).mono (by decide), hs, a3.vok⟩
    · exact ⟨.inr ⟨a3, a2⟩, ((hI.rdy h.rdy.fz).addV h.vok.gl).mono (by omega), hs, h.vok.all (addV_all (by rw [a1]; decide))⟩
  · rw [addV_1 h1] at hs ⊢
    exact ⟨h.st.imp (fun x => ⟨x.1, by have := x.2; dsimp only; omega⟩) id, h.rdy, hs, h.vok⟩
theorem Rdy.fuse {T : Tp} {B : Nat} (h : Rdy T B) {f : Int} (hf : f ≤ 9223372036854775807) (d : Bool) : Rdy ⟨T.fs, f, d⟩ B := ⟨h.ok, hf, h.op⟩
theorem Sz2.mend {T : Tp} {B : Nat} (h : Sz2 T B) : Sz2 (mend T).2 B := by
  unfold Go.Proofs.YthhdilafnfcpbaaDoor.mend
  split
  · exact h
  · exact Sz2.and (h.cut 0 _) (Nat.le_refl _) fun h => h.sync 0
end Go.Proofs.YthhdilafnfcpbaaDoor
/- A vault and the document's, wherever the power goes: rows that two vaults share. -/
namespace Go.Proofs.YthhdilafnfcpbaaDoor
open Go
set_option linter.unusedVariables false
set_option linter.unusedSimpArgs false
theorem RowsH.mono {E : Nat} {v : Value} {ls : List Bs} {Nr Nd Nd' : Hl} (h : RowsH E v ls Nr Nd) (hs : ∀ p ∈ Nd, p ∈ Nd') : RowsH E v ls Nr Nd' := by
  obtain ⟨vs, h1, h2, h3⟩ := h
  exact ⟨vs, h1, h2, fun i hi => (h3 i hi).mono hs⟩
theorem VOk.snoc {g : Nat} {t : Bs} {r : List Bs} {b : Bs} (h : VOk ⟨g, t, r, false⟩) (hr : r.length ≤ 100) (hb : b.length ≤ 500) : VOk ⟨g, t, r ++ [b], false⟩ := by
  obtain ⟨h1, h2, h3, h4⟩ := h
  refine ⟨h1, h2, fun y hy => ?_, by simp only [List.length_append, List.length_singleton]; omega⟩
  rcases List.mem_append.1 hy with hy | hy
  · exact h3 y hy
  · rw [List.mem_singleton.1 hy]; omega
theorem VOk.saved {g : Nat} {b : Bs} (hg : g ≤ 100) (hb : b.length ≤ 500) : VOk ⟨g, b, [], false⟩ := ⟨by show g ≤ _; omega, by show b.length ≤ _; omega, (fun y hy => by cases hy), Nat.zero_le _⟩
end Go.Proofs.YthhdilafnfcpbaaDoor
/- Long records: how many have room. -/
namespace Go.Proofs.YthhdilafnfcpbaaDoor
open Go
set_option linter.unusedVariables false
set_option linter.unusedSimpArgs false
end Go.Proofs.YthhdilafnfcpbaaDoor
/- Rows that are wholly one's own: each row's memory by itself. -/
namespace Go.Proofs.YthhdilafnfcpbaaDoor
open Go
set_option linter.unusedVariables false
set_option linter.unusedSimpArgs false
def OwnAll (U : Nat) : List Value → List Bs → Hl → Prop
  | [], [], N => N = []
  | v :: vs, l :: ls, N => ∃ Nx N', N = Nx ++ N' ∧ Ow B8 U v l Nx ∧ OwnAll U vs ls N'
  | _, _, _ => False
theorem OwnAll.snoc {U : Nat} {x : Value} {l : Bs} {Nx : Hl} (hx : Ow B8 U x l Nx) : ∀ {vs : List Value} {ls : List Bs} {N : Hl}, OwnAll U vs ls N → OwnAll U (vs ++ [x]) (ls ++ [l]) (N ++ Nx)
  | [], [], N, h => by
    have h : N = [] := h
    subst h
    exact ⟨Nx, [], by simp, hx, rfl⟩
  | v :: vs, k :: ls, N, h => by
    obtain ⟨Na, N', rfl, h1, h2⟩ := h
    exact ⟨Na, N' ++ Nx, by simp, h1, OwnAll.snoc hx h2⟩
theorem OwnAll.rdh {U : Nat} : ∀ {vs : List Value} {ls : List Bs} {N : Hl}, OwnAll U vs ls N → ∀ i, i < ls.length → RdH N (vs.getD i nilV) (ls.getD i [])
  | [], [], _, _, _, hi => absurd hi (Nat.not_lt_zero _)
  | [], _ :: _, _, h, _, _ => False.elim h
  | v :: vs, k :: ls, N, h, 0, _ => by
    obtain ⟨Na, N', rfl, h1, h2⟩ := h
    exact (Own.rdh h1).mono fun p hp => List.mem_append_left _ hp
  | v :: vs, k :: ls, N, h, i + 1, hi => by
    obtain ⟨Na, N', rfl, h1, h2⟩ := h
    exact (OwnAll.rdh h2 i (Nat.lt_of_succ_lt_succ hi)).mono fun p hp => List.mem_append_right _ hp
theorem OwnAll.at {U : Nat} : ∀ {vs : List Value} {ls : List Bs} {N : Hl} {i : Nat}, OwnAll U vs ls N → i < ls.length →
    ∃ N1 Nx N2, N = N1 ++ (Nx ++ N2) ∧ Ow B8 U (vs.getD i nilV) (ls.getD i []) Nx ∧ ∀ l' Nx', Ow B8 U (vs.getD i nilV) l' Nx' → OwnAll U vs (ls.set i l') (N1 ++ (Nx' ++ N2))
  | [], [], _, _, _, hi => absurd hi (Nat.not_lt_zero _)
  | [], _ :: _, _, _, h, _ => False.elim h
  | v :: vs, k :: ls, N, 0, h, _ => by
    obtain ⟨Na, N', rfl, h1, h2⟩ := h
    exact ⟨[], Na, N', rfl, h1, fun l' Nx' hx => ⟨Nx', N', rfl, hx, h2⟩⟩
  | v :: vs, k :: ls, N, i + 1, h, hi => by
    obtain ⟨Na, N', rfl, h1, h2⟩ := h
    obtain ⟨N1, Nx, N2, rfl, h3, h4⟩ := OwnAll.at h2 (i := i) (Nat.lt_of_succ_lt_succ hi)
    exact ⟨Na ++ N1, Nx, N2, by simp, h3, fun l' Nx' hx => ⟨Na, N1 ++ (Nx' ++ N2), by simp, h1, h4 l' Nx' hx⟩⟩
def RowsO (E U : Nat) (v : Value) (ls : List Bs) (Nr Nd : Hl) : Prop := ∃ vs : List Value, vs.length = ls.length ∧ Own E 1 v ls.length vs Nr ∧ OwnAll U vs ls Nd
theorem RowsO.nil (E U : Nat) : RowsO E U nilV [] [] [] := ⟨[], rfl, Own.nil E 1, rfl⟩
theorem RowsO.snoc {E U : Nat} {v' x : Value} {vs : List Value} {ls : List Bs} {l : Bs} {Nr' Nd Nx : Hl} (hl : vs.length = ls.length) (ho : Own E 1 v' (ls.length + 1) (vs ++ [x]) Nr') (ha : OwnAll U vs ls Nd) (hx : Ow B8 U x l Nx) : RowsO E U v' (ls ++ [l]) Nr' (Nd ++ Nx) :=
  ⟨vs ++ [x], by simp [hl], by simpa using ho, ha.snoc hx⟩
end Go.Proofs.YthhdilafnfcpbaaDoor
