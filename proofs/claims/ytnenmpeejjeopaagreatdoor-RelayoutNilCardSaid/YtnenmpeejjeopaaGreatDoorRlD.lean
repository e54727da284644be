/- The walk of the model's equal. -/
import Derived.Test.YtnenmpeejjeopaaGreatDoorRlC
namespace Go.Proofs.YtnenmpeejjeopaaGreatDoor
open Go.RowKit Go.Th
set_option linter.unusedVariables false
set_option maxRecDepth 20000

def neP (a b : Piece) : Bool :=
  !decide (a.flow = b.flow) || !decide (a.block = b.block) || !decide (a.part = b.part) || !decide (a.fr = b.fr) || !decide (a.tt = b.tt) || !decide (a.height = b.height) || !decide (a.before = b.before) || !decide (a.after = b.after) || !decide (a.rep = b.rep) || !(a.force == b.force) || !(a.kept == b.kept) || !decide ((a.feet.length : Int) = b.feet.length)

theorem neP_true {a b : Piece} (h : neP a b = true) : eqP a b = false := by
  cases e : eqP a b with
  | false => rfl
  | true => rw [eqP_iff] at e; subst e; simp [neP] at h
theorem neP_false {a b : Piece} (h : neP a b = false) : eqP a b = eqFeet a.feet b.feet ∧ a.feet.length = b.feet.length := by
  simp only [neP, Bool.or_eq_false_iff, Bool.not_eq_false', decide_eq_true_eq, beq_iff_eq] at h
  obtain ⟨⟨⟨⟨⟨⟨⟨⟨⟨⟨⟨h1, h2⟩, h3⟩, h4⟩, h5⟩, h6⟩, h7⟩, h8⟩, h9⟩, h10⟩, h11⟩, h12⟩ := h
  exact ⟨by simp [eqP, h1, h2, h3, h4, h5, h6, h7, h8, h9, h10, h11], by omega⟩

end Go.Proofs.YtnenmpeejjeopaaGreatDoor
