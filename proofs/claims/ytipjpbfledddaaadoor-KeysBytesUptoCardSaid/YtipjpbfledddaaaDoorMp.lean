/- Keys: where any digests lead; what verifying tells; a key's cells. -/
import Derived.Test.YtipjpbfledddaaaDoorMj
import Derived.Test.YtipjpbfledddaaaDoorMy
namespace Go.Proofs.YtipjpbfledddaaaDoor
open Go
set_option linter.unusedSimpArgs false
theorem ones_nil : ∀ u ∈ ([] : List Value), u.oneCell' = true := fun _ h => absurd h (List.not_mem_nil)
theorem ones_cons {v : Value} {l : List Value} (h : v.oneCell' = true) (hl : ∀ u ∈ l, u.oneCell' = true) : ∀ u ∈ v :: l, u.oneCell' = true := fun u hu => by
  rcases List.mem_cons.1 hu with rfl | hu
  · exact h
  · exact hl u hu
/-- where digests lead as a path, or the error -/
def clT (p : Bs) (i : Int) (ds : List Bs) : Bs × Nat := if ds.length ≤ 10 ∧ 0 ≤ i ∧ i < ((2 ^ ds.length : Nat) : Int) then (clm p i.toNat ds ds.length, 0) else (List.replicate 32 0#8, 1)
theorem clT_ok {p : Bs} {i : Nat} {ds : List Bs} (h1 : ds.length ≤ 10) (h2 : i < 2 ^ ds.length) : clT p i ds = (clm p i ds ds.length, 0) := by
  rw [clT, if_pos ⟨h1, by omega, by exact_mod_cast h2⟩]; rfl
theorem clT_bad {p : Bs} {i : Int} {ds : List Bs} (h : ¬ (ds.length ≤ 10 ∧ 0 ≤ i ∧ i < ((2 ^ ds.length : Nat) : Int))) : clT p i ds = (List.replicate 32 0#8, 1) := by rw [clT, if_neg h]
theorem clT_length {p : Bs} (hp : p.length = 32) (i : Int) (ds : List Bs) : (clT p i ds).1.length = 32 := by
  unfold clT
  split
  · exact clm_length hp _ _ _
  · simp
/-- is the signature right? -/
def V7 (pub : Bs) (n h : Int) (text : Bs) (i : Int) (A B : List Bs) : Prop := R7 n h ∧ (B.length : Int) = h ∧ (recT n text A).2 = 0 ∧ (clT (recT n text A).1 i B).2 = 0 ∧ (clT (recT n text A).1 i B).1 = pub
instance (pub : Bs) (n h : Int) (text : Bs) (i : Int) (A B : List Bs) : Decidable (V7 pub n h text i A B) := by unfold V7; infer_instance
theorem otsK_length (s : Bs) (n i : Nat) (text : Bs) : (otsK s n i text).length = 2 * n := by simp [otsK]
theorem otsK_dg (s : Bs) (n i : Nat) (text : Bs) : Dg (otsK s n i text) := sigV_dg _ _ _
theorem pthK_length (s : Bs) (n h i : Nat) : (pthK s n h i).length = h := pth_length _ _ _
theorem pthK_dg (s : Bs) (n : Nat) {h i : Nat} (hi : i < 2 ^ h) : Dg (pthK s n h i) := pth_dg (leavesK_dg s n _) (leavesK_length s n _) hi (Nat.le_refl _)
/-- what is signed is right -/
theorem sig_right (s text : Bs) {n h i : Nat} (hr : R7 n h) (hi : i < 2 ^ h) : V7 (pubK s n h) n h text i (otsK s n i text) (pthK s n h i) := by
  have hl := pthK_length s n h i
  have h6 : h ≤ 6 := by have := hr.2.2; omega
  have hrec : recT n text (otsK s n i text) = (rootO (recV text (otsK s n i text) n), 0) := recT_ok hr.1 text (otsK_length s n i text)
  have hc : clT (rootO (recV text (otsK s n i text) n)) i (pthK s n h i) = (pubK s n h, 0) := by
    rw [clT_ok (by omega) (by rw [hl]; exact hi), hl, sig_back s text hi]
  refine ⟨hr, by omega, ?_⟩
  rw [hrec]
  simp only [hc, and_self]
/-- a key's cells -/
def keyC (f lv : Value) (p : Bs) (n x : Int) : List Value := f :: lv :: (p.map B8 ++ [I n, I x])
theorem keyC_length {f lv : Value} {p : Bs} {n x : Int} (hp : p.length = 32) : (keyC f lv p n x).length = 36 := by simp [keyC, hp]
theorem keyC_34 {f lv : Value} {p : Bs} {n x : Int} (hp : p.length = 32) : (keyC f lv p n x)[34]? = some (I n) := by
  show (p.map B8 ++ [I n, I x])[32]? = _
  rw [List.getElem?_append_right (by simp [hp])]; simp [hp]
theorem keyC_35 {f lv : Value} {p : Bs} {n x : Int} (hp : p.length = 32) : (keyC f lv p n x)[35]? = some (I x) := by
  show (p.map B8 ++ [I n, I x])[33]? = _
  rw [List.getElem?_append_right (by simp [hp])]; simp [hp]
theorem keyC_set35 {f lv : Value} {p : Bs} {n x y : Int} (hp : p.length = 32) : (keyC f lv p n x).set 35 (I y) = keyC f lv p n y := by
  show f :: lv :: (p.map B8 ++ [I n, I x]).set 33 (I y) = _
  rw [List.set_append_right _ _ (by simp [hp])]; simp [hp, keyC]
theorem keyC_pub {f lv : Value} {p : Bs} {n x : Int} (hp : p.length = 32) : ((keyC f lv p n x).drop 2).take 32 = p.map B8 := by
  show (p.map B8 ++ [I n, I x]).take 32 = _
  rw [List.take_left' (by simp [hp])]
theorem keyC_put {f lv : Value} {p q : Bs} {n x : Int} (hp : p.length = 32) (hq : q.length = 32) : putAt (keyC f lv p n x) 2 (q.map B8) = keyC f lv q n x := by
  rw [putAt_eq _ _ _ (by simp [keyC_length hp, hq])]
  simp [keyC, hp, hq]
/-- the document's key's cells -/
def rkeyC (s : Bs) (n h x : Int) : List Value := s.map B8 ++ [I n, I h, I x]
theorem rkeyC_length {s : Bs} {n h x : Int} (hs : s.length = 32) : (rkeyC s n h x).length = 35 := by simp [rkeyC, hs]
theorem rkeyC_seed {s : Bs} {n h x : Int} (hs : s.length = 32) : ((rkeyC s n h x).drop 0).take 32 = s.map B8 := by
  rw [List.drop_zero, rkeyC, List.take_left' (by simp [hs])]
theorem rkeyC_32 {s : Bs} {n h x : Int} (hs : s.length = 32) : (rkeyC s n h x)[32]? = some (I n) := by
  rw [rkeyC, List.getElem?_append_right (by simp [hs])]; simp [hs]
theorem rkeyC_33 {s : Bs} {n h x : Int} (hs : s.length = 32) : (rkeyC s n h x)[33]? = some (I h) := by
  rw [rkeyC, List.getElem?_append_right (by simp [hs])]; simp [hs]
theorem rkeyC_34 {s : Bs} {n h x : Int} (hs : s.length = 32) : (rkeyC s n h x)[34]? = some (I x) := by
  rw [rkeyC, List.getElem?_append_right (by simp [hs])]; simp [hs]
theorem rkeyC_set {s : Bs} {n h x y : Int} (hs : s.length = 32) : (rkeyC s n h x).set 34 (I y) = rkeyC s n h y := by
  rw [rkeyC, List.set_append_right _ _ (by simp [hs])]; simp [hs, rkeyC]
/-- 32 bytes are a row of one digest -/
theorem Rd.as1 {M : List Nat} {w : World} {ad : Addr} {cs : List Value} (h : Rd M w (.slice (some ad) 32 32) 32 1 cs) : Rd M w (.slice (some ad) 1 1) 1 32 cs := by
  obtain ⟨h1, a, cap, h2, h3, h4, h5⟩ := h
  cases h2
  refine ⟨by simpa using h1, some ad, 1, rfl, Nat.le_refl _, (fun h => by cases h), fun ad' had _ => ?_⟩
  obtain ⟨h6, h7, arr, E, fr, h8, h9, h10⟩ := h5 ad' had (by decide)
  exact ⟨h6, h7, arr, E, fr, h8, by omega, fun i hi => h10 i (by omega)⟩
theorem HS.boxD {M : List Nat} {w0 w : World} {Hs : List Hl} {b T : Nat} {fr : Nat × Nat} {l : Bs} (hH : HS M w0 w Hs) (i : Nat) (hi : nth? Hs i = some [(b, Obj.cells (l.map B8).toArray T fr)]) (hl : l.length = 32) : RdD [] w (.slice (some ⟨b, 0, none⟩) 1 1) [l] := by
  have h := hH.byB i hi hl
  rw [By, hl] at h
  simpa [RdD, dc] using h.as1
theorem HS.boxDM {M : List Nat} {w0 w : World} {Ns1 rest : List Hl} {b T : Nat} {fr : Nat × Nat} {l : Bs} (hH : HS M w0 w (Ns1 ++ rest)) (i : Nat) (hi : nth? rest i = some [(b, Obj.cells (l.map B8).toArray T fr)]) (hl : l.length = 32) : RdD (doms Ns1) w (.slice (some ⟨b, 0, none⟩) 1 1) [l] := by
  have h := hH.byBM i hi hl
  rw [By, hl] at h
  simpa [RdD, dc] using h.as1
/-- to skip -/
def skT (q x : Nat) (to : Int) : Nat × Nat := if (x : Int) ≤ to ∧ to ≤ q then (0, to.toNat) else (1, x)
theorem skT_ok {q x : Nat} {to : Int} (h1 : (x : Int) ≤ to) (h2 : to ≤ q) : skT q x to = (0, to.toNat) := if_pos ⟨h1, h2⟩
theorem skT_no {q x : Nat} {to : Int} (h : ¬ ((x : Int) ≤ to ∧ to ≤ q)) : skT q x to = (1, x) := if_neg h
theorem skT_le {q x : Nat} {to : Int} (hx : x ≤ q) : (skT q x to).2 ≤ q := by
  unfold skT
  split
  · simp only; omega
  · exact hx
theorem skT_ge {q x : Nat} {to : Int} : x ≤ (skT q x to).2 := by
  unfold skT
  split
  · simp only; omega
  · exact Nat.le_refl _
theorem pow_le64 {h : Nat} (hh : h ≤ 6) : 2 ^ h ≤ 64 := Nat.pow_le_pow_right (by decide) hh
theorem keyC_new {f : Value} {n : Int} : keyC f nilV (List.replicate 32 0#8) n 0 = f :: nilV :: (List.replicate 32 (B8 0#8) ++ [I n, I 0]) := by simp [keyC]
/-- more than is played? -/
def G7 (n h : Int) : Prop := (24 < n ∧ n ≤ 256) ∨ (3 < h ∧ h ≤ 6)
instance (n h : Int) : Decidable (G7 n h) := by unfold G7; infer_instance
section
variable {P : Program} {ops : Array Oper} {Q : Exit → Act → World → Prop} {S : World → Prop} {keep : Nat → Bool} {n : Nat} {E : Env} {a : Act} {w : World} {listed listed' : Array Bool} {fuel : Nat}
  {d : Nat} {op : Op} {ty : TypeId} {pos : String} {af : Array Edge}
/-- one of two that are ready, guarded and wanted -/
theorem oneGL (hA : At n E a) (i : Nat) {g t : Nat} {b : Bool} {Post : Value → World → Prop} (ho : ops[i]? = some ⟨some d, op, ty, pos, af, some (g, b)⟩) (hops : (ops[g]?).bind (·.dst) = some t) (ht : E.look t = some (.bool b))
    (h : Lo P E op ty w Post) (hd : Nat.blt d n = true) (hl : listed.setIfInBounds i true = listed')
    (k : ∀ v w', Post v w' → (S w → keep i = true → S w') ∧ ∀ a', At n ((d, v) :: E) a' → wpK P .any ops Q S keep fuel listed' a' w') :
    wpOne P ops Q S keep fuel listed a w i := by
  unfold wpOne wpOp
  simp only [ho]
  rw [if_pos (by rw [wanted_of rfl hA hops ht]; simp)]
  refine .inl (h a (some d) pos af _ _ Q (fun x u hx => hA.ev hx) fun v w' hv => ?_)
  obtain ⟨k1, k2⟩ := k v w' hv
  rw [hl]
  exact ⟨k1, k2 _ (hA.put hd v)⟩
end
theorem RdD.nilV {M : List Nat} {w : World} : RdD M w Go.Proofs.YtipjpbfledddaaaDoor.nilV [] := ⟨rfl, none, 0, rfl, Nat.le_refl _, fun _ => ⟨rfl, rfl⟩, fun _ h => by cases h⟩
theorem sh64 {h : Nat} (hh : h ≤ 6) : ((1#64 : BitVec 64) <<< h).toNat = 2 ^ h := by
  have := pow_le64 hh
  rw [BitVec.toNat_shiftLeft, Nat.shiftLeft_eq]
  simp only [BitVec.toNat_ofNat, Nat.reducePow, Nat.reduceMod, Nat.one_mul]
  generalize 2 ^ h = q at *
  omega
theorem umod_h (i : Int) {h : Nat} (hh : h ≤ 6) : (BitVec.ofInt 64 i % ((1#64 : BitVec 64) <<< h)).toNat < 2 ^ h := by
  rw [BitVec.toNat_umod, sh64 hh]
  exact Nat.mod_lt _ (Nat.pow_pos (by decide))
end Go.Proofs.YtipjpbfledddaaaDoor
