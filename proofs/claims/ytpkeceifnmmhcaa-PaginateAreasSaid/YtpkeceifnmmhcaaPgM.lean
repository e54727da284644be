/- The two examples of the chapter. -/
import Derived.Test.YtpkeceifnmmhcaaPgL
namespace Go.Proofs.Ytpkeceifnmmhcaa
open Go.RowKit Go.Th
set_option linter.unusedVariables false
set_option maxRecDepth 20000

def kp (i : Nat) : Piece := ⟨0, 0, i, 0, 0, 300, 0, 0, 0, [], false, Nat.beq i 1 || Nat.beq i 4⟩
def kl (k : Nat) : List Piece := (List.range k).map kp
def rowsL : List Piece := [⟨0, 0, 0, 0, 0, 200, 0, 0, 0, [], false, false⟩, ⟨0, 0, 1, 0, 0, 500, 0, 0, 200, [], false, true⟩, ⟨0, 0, 2, 0, 0, 500, 0, 0, 200, [], false, false⟩, ⟨0, 0, 3, 0, 0, 500, 0, 0, 200, [], false, false⟩, ⟨0, 0, 4, 0, 0, 500, 0, 0, 200, [], false, false⟩]

theorem kl_succ (k : Nat) : kl (k + 1) = kl k ++ [kp k] := by simp [kl, List.range_succ]
theorem kl_len (k : Nat) : (kl k).length = k := by simp [kl]
theorem kl_feet (k : Nat) : ∀ p ∈ kl k, p.feet = [] := fun p hp => by
  obtain ⟨i, _, rfl⟩ := List.mem_map.1 hp
  rfl
theorem kl_ok : allOk (kl 5) := by
  refine ⟨by simp [kl_len], fun p hp => ?_⟩
  obtain ⟨i, hi, rfl⟩ := List.mem_map.1 hp
  have hi := List.mem_range.1 hi
  refine ⟨?_, ?_, ?_, ?_, ?_, ?_, ?_, ?_, ?_, by simp [kp], fun f hf => by simp [kp] at hf⟩ <;> simp only [kp, small] <;> omega
theorem rows_ok : allOk rowsL := by
  refine ⟨by decide, fun p hp => ?_⟩
  simp only [rowsL, List.mem_cons, List.not_mem_nil, or_false] at hp
  rcases hp with rfl | rfl | rfl | rfl | rfl <;> refine ⟨?_, ?_, ?_, ?_, ?_, ?_, ?_, ?_, ?_, by simp, fun f hf => by simp at hf⟩ <;> simp only [small] <;> omega
theorem kl_breaks : breaksL (kl 5) 1200 = [0, 3] := by decide
theorem rows_place : placeF rowsL 3 2 100 1300 = ⟨100, 1300, [⟨0, 0, 0, 0, 200, true⟩, ⟨0, 0, 3, 200, 500, false⟩, ⟨0, 0, 4, 700, 500, false⟩], [], 1200, 0⟩ := rfl
end Go.Proofs.Ytpkeceifnmmhcaa
