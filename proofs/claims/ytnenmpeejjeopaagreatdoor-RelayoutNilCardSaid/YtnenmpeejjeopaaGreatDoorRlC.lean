/- The walk of right. -/
import Derived.Test.YtnenmpeejjeopaaGreatDoorRlB
namespace Go.Proofs.YtnenmpeejjeopaaGreatDoor
open Go.RowKit Go.Th
set_option linter.unusedVariables false
set_option maxRecDepth 20000

def inR (n : Int) : Bool := decide (0 ≤ n) && decide (n ≤ 1073741824)
def badP (p : Piece) : Bool := decide (4 < (p.feet.length : Int)) || !inR p.flow || !inR p.block || !inR p.part || !inR p.fr || !inR p.tt || !inR p.height || !inR p.before || !inR p.after || !inR p.rep
def inF (f : Foot) : Bool := !(!inR f.id || !inR f.h)
def rightP (p : Piece) : Bool := !badP p && p.feet.all inF
def rightL (l : List Piece) : Bool := decide (l.length ≤ 60) && l.all rightP

theorem inR_iff (n : Int) : inR n = true ↔ small n := by simp [inR, small]
theorem rightL_ok {l : List Piece} (h : rightL l = true) : allOk l ∧ ∀ p ∈ l, p.feet.length ≤ 4 := by
  simp only [rightL, Bool.and_eq_true, decide_eq_true_eq, List.all_eq_true] at h
  have key : ∀ p ∈ l, p.ok ∧ p.feet.length ≤ 4 := fun p hp => by
    have h2 := h.2 p hp
    simp only [rightP, badP, inF, Bool.and_eq_true, Bool.not_eq_true', Bool.or_eq_false_iff, List.all_eq_true, Bool.not_eq_false', decide_eq_false_iff_not, inR_iff] at h2
    obtain ⟨⟨⟨⟨⟨⟨⟨⟨⟨⟨h3, h4⟩, h5⟩, h6⟩, h7⟩, h8⟩, h9⟩, h10⟩, h11⟩, h12⟩, h13⟩ := h2
    exact ⟨⟨h4, h5, h6, h7, h8, h9, h10, h11, h12, by omega, h13⟩, by omega⟩
  exact ⟨⟨by have := h.1; omega, fun p hp => (key p hp).1⟩, fun p hp => (key p hp).2⟩

theorem all_drop {α : Type} {l : List α} {i : Nat} {x : α} (f : α → Bool) (h : l[i]? = some x) : (l.drop i).all f = (f x && (l.drop (i + 1)).all f) := by
  obtain ⟨h1, h2⟩ := List.getElem?_eq_some_iff.1 h
  rw [List.drop_eq_getElem_cons h1, h2]; rfl

end Go.Proofs.YtnenmpeejjeopaaGreatDoor
