/- What two lists have in common. -/
import Derived.Test.YtnenmpeejjeopaaGreatDoorRlD
namespace Go.Proofs.YtnenmpeejjeopaaGreatDoor
open Go.RowKit Go.Th
set_option linter.unusedVariables false
set_option maxRecDepth 20000

def preN (l m : List Piece) : Nat → Nat → Nat
  | 0, p => p
  | n + 1, p => if p < l.length ∧ p < m.length ∧ eqP (pg l p) (pg m p) = true then preN l m n (p + 1) else p
def sufN (l m : List Piece) (p : Nat) : Nat → Nat → Nat
  | 0, q => q
  | n + 1, q => if q < l.length - p ∧ q < m.length - p ∧ eqP (pg l (l.length - 1 - q)) (pg m (m.length - 1 - q)) = true then sufN l m p n (q + 1) else q
def preL (l m : List Piece) : Nat := preN l m l.length 0
def sufL (l m : List Piece) : Nat := sufN l m (preL l m) l.length 0

theorem preN_le (l m : List Piece) (n p : Nat) (h1 : p ≤ l.length) (h2 : p ≤ m.length) : preN l m n p ≤ l.length ∧ preN l m n p ≤ m.length := by
  induction n generalizing p with
  | zero => exact ⟨h1, h2⟩
  | succ n ih =>
    simp only [preN]
    split
    · exact ih (p + 1) (by omega) (by omega)
    · exact ⟨h1, h2⟩
theorem preL_le (l m : List Piece) : preL l m ≤ l.length ∧ preL l m ≤ m.length := preN_le l m _ 0 (by omega) (by omega)
theorem sufN_le (l m : List Piece) (p n q : Nat) (h1 : q ≤ l.length - p) (h2 : q ≤ m.length - p) : sufN l m p n q ≤ l.length - p ∧ sufN l m p n q ≤ m.length - p := by
  induction n generalizing q with
  | zero => exact ⟨h1, h2⟩
  | succ n ih =>
    simp only [sufN]
    split
    · exact ih (q + 1) (by omega) (by omega)
    · exact ⟨h1, h2⟩

theorem preN_stop {l m : List Piece} {n p : Nat} (h : ¬ (p < l.length ∧ p < m.length ∧ eqP (pg l p) (pg m p) = true)) : preN l m n p = p := by
  cases n with
  | zero => rfl
  | succ n => simp only [preN]; rw [if_neg h]
theorem sufN_stop {l m : List Piece} {p n q : Nat} (h : ¬ (q < l.length - p ∧ q < m.length - p ∧ eqP (pg l (l.length - 1 - q)) (pg m (m.length - 1 - q)) = true)) : sufN l m p n q = q := by
  cases n with
  | zero => rfl
  | succ n => simp only [sufN]; rw [if_neg h]
theorem feet_small {l : List Piece} (h : allOk l) {i : Nat} (hi : i < l.length) : (pg l i).feet.length ≤ 1000000 := by
  have := (ok_pg h hi).feet; omega

end Go.Proofs.YtnenmpeejjeopaaGreatDoor
