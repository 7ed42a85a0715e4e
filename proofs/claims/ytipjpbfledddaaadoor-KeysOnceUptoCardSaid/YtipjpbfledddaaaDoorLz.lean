/- A region whose next loud operation is one of two. -/
import Derived.Test.YtipjpbfledddaaaDoorLa
namespace Go.Proofs.YtipjpbfledddaaaDoor
open Go
section
variable {P : Program} {ops : Array Oper} {Q : Exit → Act → World → Prop} {S : World → Prop} {keep : Nat → Bool} {n : Nat} {E : Env} {a : Act} {w : World} {listed listed' : Array Bool} {fuel : Nat}
  {d : Nat} {op : Op} {ty : TypeId} {pos : String} {af : Array Edge}

/-- the operation i is the next one -/
def wpOne (P : Program) (ops : Array Oper) (Q : Exit → Act → World → Prop) (S : World → Prop) (keep : Nat → Bool) (fuel : Nat) (listed : Array Bool) (a : Act) (w : World) (i : Nat) : Prop :=
  wpOp P ops Q i (fun a' w' => (S w → keep i = true → S w') ∧ wpK P .any ops Q S keep fuel (listed.setIfInBounds i true) a' w') a w

theorem a_ch2 {i j : Nat} (hr : Region.ready .any ops listed = [i, j]) (h1 : wpOne P ops Q S keep fuel listed a w i) (h2 : wpOne P ops Q S keep fuel listed a w j) : wpK P .any ops Q S keep (fuel + 1) listed a w := by
  refine ⟨fun h0 => (by rw [h0] at hr; cases hr), fun k hk => ?_⟩
  rw [hr] at hk
  simp only [List.mem_cons, List.not_mem_nil, or_false] at hk
  rcases hk with rfl | rfl
  · exact h1
  · exact h2

theorem oneL (hA : At n E a) (i : Nat) {Post : Value → World → Prop} (ho : ops[i]? = some ⟨some d, op, ty, pos, af, none⟩)
    (h : Lo P E op ty w Post) (hd : Nat.blt d n = true) (hl : listed.setIfInBounds i true = listed')
    (k : ∀ v w', Post v w' → (S w → keep i = true → S w') ∧ ∀ a', At n ((d, v) :: E) a' → wpK P .any ops Q S keep fuel listed' a' w') :
    wpOne P ops Q S keep fuel listed a w i := by
  unfold wpOne wpOp
  simp only [ho]
  rw [if_pos (by simp [Region.wanted])]
  refine .inl (h a (some d) pos af none _ Q (fun x u hx => hA.ev hx) fun v w' hv => ?_)
  obtain ⟨k1, k2⟩ := k v w' hv
  rw [hl]
  exact ⟨k1, k2 _ (hA.put hd v)⟩
theorem one0 (hA : At n E a) (i : Nat) {Post : Value → World → Prop} (ho : ops[i]? = some ⟨none, op, ty, pos, af, none⟩)
    (h : Lo P E op ty w Post) (hl : listed.setIfInBounds i true = listed')
    (k : ∀ v w', Post v w' → (S w → keep i = true → S w') ∧ wpK P .any ops Q S keep fuel listed' a w') :
    wpOne P ops Q S keep fuel listed a w i := by
  unfold wpOne wpOp
  simp only [ho]
  rw [if_pos (by simp [Region.wanted])]
  refine .inl (h a none pos af none _ Q (fun x u hx => hA.ev hx) fun v w' hv => ?_)
  obtain ⟨k1, k2⟩ := k v w' hv
  rw [hl]
  exact ⟨k1, k2⟩
end
end Go.Proofs.YtipjpbfledddaaaDoor
