/- The example at the head of layer 17 comes out as it should, in every world: the evaluator says so. -/
import Derived.Test.YtpmfnjkcoogicaaGreatEvOk
namespace Go.Proofs.YtpmfnjkcoogicaaGreat
open Go Go.Ev Go.Proofs Go.RowKit

noncomputable def known17 : Option (PV × St) := (evN tab 3000).call 6 [] ⟨⟨0, .leaf⟩, []⟩
noncomputable def isTrue : Option (PV × St) → Bool
  | some (.v (.bool b), _) => b
  | _ => false
theorem known17_true : isTrue known17 = true := by kernel_rfl
theorem isTrue_ex {x : Option (PV × St)} (h : isTrue x = true) : ∃ s, x = some (.v (.bool true), s) := by
  unfold isTrue at h
  split at h
  · subst h; exact ⟨_, rfl⟩
  · cases h
theorem known17_below (w : World) : Calls Tryz.prog 6 #[] w fun e w' => e = .returned (.bool true) ∧ Below w.heap.size w w' := by
  obtain ⟨s, hs⟩ := isTrue_ex known17_true
  exact calls_closed tab_ok hs w
end Go.Proofs.YtpmfnjkcoogicaaGreat
