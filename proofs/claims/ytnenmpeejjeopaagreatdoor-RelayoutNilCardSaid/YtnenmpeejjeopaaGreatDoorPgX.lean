/- The model's fill, breaks and same. -/
import Derived.Test.YtnenmpeejjeopaaGreatDoorPgW
namespace Go.Proofs.YtnenmpeejjeopaaGreatDoor
open Go.RowKit Go.Th
set_option linter.unusedVariables false
set_option maxRecDepth 20000

theorem flat_drop {α : Type} {enc : α → List PV} {sz : Nat} (henc : ∀ x, (enc x).length = sz) : ∀ (l : List α) (i : Nat), (l.flatMap enc).drop (i * sz) = (l.drop i).flatMap enc
  | [], i => by simp
  | a :: l, 0 => by simp
  | a :: l, i + 1 => by
    rw [List.flatMap_cons, show (i + 1) * sz = (enc a).length + i * sz from by rw [henc, Nat.add_mul]; omega, List.drop_append]
    rw [List.drop_eq_nil_of_le (by omega), List.nil_append, Nat.add_sub_cancel_left, List.drop_succ_cons]
    exact flat_drop henc l i
theorem flat_take {α : Type} {enc : α → List PV} {sz : Nat} (henc : ∀ x, (enc x).length = sz) : ∀ (l : List α) (i : Nat), (l.flatMap enc).take (i * sz) = (l.take i).flatMap enc
  | [], i => by simp
  | a :: l, 0 => by simp
  | a :: l, i + 1 => by
    rw [List.flatMap_cons, show (i + 1) * sz = (enc a).length + i * sz from by rw [henc, Nat.add_mul]; omega, List.take_append]
    rw [List.take_of_length_le (by omega), Nat.add_sub_cancel_left, List.take_succ_cons, List.flatMap_cons, flat_take henc l i]
def sub (l : List Piece) (a b : Nat) : List Piece := (l.drop a).take (b - a)
theorem pcs_sub (l : List Piece) {a b : Nat} (h : a ≤ b) (hb : b ≤ l.length) : sliceA 12 (pcs l) a b = some (pcs (sub l a b)) := by
  have e : (sub l a b).length = b - a := by simp only [sub, List.length_take, List.length_drop]; omega
  simp only [pcs, sliceA, e]
  rw [flat_drop encPiece_len, flat_take encPiece_len]
  rfl
theorem ok_sub {l : List Piece} (h : allOk l) (a b : Nat) : allOk (sub l a b) :=
  allOk_sub h (by simp only [sub, List.length_take, List.length_drop]; omega) (fun p hp => List.mem_of_mem_drop (List.mem_of_mem_take hp))

theorem tot_gp (l : List Piece) (a : Nat) (height : Int) (j : Nat) : tot l a height j = repOf (pg l a) height + (tx l a j + nt l a j + gp (ft l a j)) := by
  simp only [tot, fillH]
  by_cases h : 0 < ft l a j
  · rw [gp_pos h, if_pos (by omega)]; omega
  · rw [show ft l a j = 0 by omega, if_neg (by omega)]; simp only [gp]; omega

end Go.Proofs.YtnenmpeejjeopaaGreatDoor
