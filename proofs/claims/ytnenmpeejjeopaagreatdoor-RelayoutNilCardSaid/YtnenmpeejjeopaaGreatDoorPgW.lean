/- The model's need and repeat. -/
import Derived.Test.YtnenmpeejjeopaaGreatDoorPgT
import Derived.Test.YtnenmpeejjeopaaGreatDoorThC
namespace Go.Proofs.YtnenmpeejjeopaaGreatDoor
open Go.RowKit Go.Th
set_option linter.unusedVariables false
set_option maxRecDepth 20000

def gapB (l : List Piece) : Nat → Int
  | 0 => 0
  | i + 1 => (pg l i).after + (pg l (i + 1)).before
/-- What the first i pieces need, without the gap above the feet. -/
def nd (l : List Piece) : Nat → Int
  | 0 => 0
  | i + 1 => nd l i + (pg l i).height + gapB l i + sumFeet (pg l i).feet
def gp : Nat → Int
  | 0 => 0
  | _ + 1 => 120

theorem gapB_le {l : List Piece} (h : allOk l) {i : Nat} (hi : i < l.length) : 0 ≤ gapB l i ∧ gapB l i ≤ 2200000000 := by
  cases i with
  | zero => simp [gapB]
  | succ i =>
    have h1 := (ok_pg h hi).before
    have h2 := (ok_pg h (show i < l.length by omega)).after
    simp only [small] at h1 h2
    simp only [gapB]; omega

theorem nd_le {l : List Piece} (h : allOk l) (i : Nat) (hi : i ≤ l.length) : 0 ≤ nd l i ∧ nd l i ≤ 10000000000 * i := by
  induction i with
  | zero => simp [nd]
  | succ i ih =>
    have ih := ih (by omega)
    have hp := ok_pg h (show i < l.length by omega)
    have h1 := hp.height
    have h2 := sumFeet_take_le _ (pg l i).feet.length hp.foot hp.feet
    rw [List.take_length] at h2
    have h3 := gapB_le h (show i < l.length by omega)
    simp only [small] at h1
    simp only [nd]; omega

theorem gp_eq (n : Nat) : gp n = 0 ∨ gp n = 120 := by cases n <;> simp [gp]
theorem gp_pos {n : Nat} (h : 0 < n) : gp n = 120 := by cases n <;> simp_all [gp]

theorem nd_tx (l : List Piece) (a j : Nat) (h : a + j < l.length) : nd ((l.drop a).take (j + 1)) (j + 1) = tx l a j + nt l a j ∧ (feetN ((l.drop a).take (j + 1)) 0 (j + 1)).length = ft l a j := by
  have key : ∀ i, i ≤ j → nd ((l.drop a).take (j + 1)) (i + 1) = tx l a i + nt l a i ∧ (feetN ((l.drop a).take (j + 1)) 0 (i + 1)).length = ft l a i := by
    have hpg : ∀ i, i ≤ j → pg ((l.drop a).take (j + 1)) i = pg l (a + i) := fun i hi => by
      simp only [pg, List.getD_eq_getElem?_getD, List.getElem?_take, List.getElem?_drop]
      rw [if_pos (by omega)]
    intro i
    induction i with
    | zero =>
      intro _
      have h0 := hpg 0 (by omega)
      simp only [nd, gapB, feetN, tx, nt, ft, Nat.add_zero, List.nil_append] at h0 ⊢
      rw [h0]
      exact ⟨by omega, rfl⟩
    | succ i ih =>
      intro hi
      obtain ⟨h1, h2⟩ := ih (by omega)
      have h3 := hpg (i + 1) hi
      have h4 := hpg i (by omega)
      rw [nd, h1, feetN, List.length_append, h2]
      simp only [gapB, tx, nt, ft, Nat.zero_add]
      rw [h3, h4]
      exact ⟨by rw [show a + (i + 1) = a + i + 1 from rfl]; omega, rfl⟩
  exact key j (Nat.le_refl _)

theorem allOk_sub {l l' : List Piece} (h : allOk l) (hs : l'.length ≤ l.length) (hm : ∀ p ∈ l', p ∈ l) : allOk l' := ⟨by have := h.1; omega, fun p hp => h.2 p (hm p hp)⟩

end Go.Proofs.YtnenmpeejjeopaaGreatDoor
