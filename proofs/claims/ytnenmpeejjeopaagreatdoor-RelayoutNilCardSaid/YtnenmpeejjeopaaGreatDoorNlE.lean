/- RelayoutNil: what its card asks of the program, each fact by itself. -/
import Derived.Test.YtnenmpeejjeopaaGreatDoorCards
import Derived.Test.YtnenmpeejjeopaaGreatDoorTie
import Derived.ProofKit
import Derived.JoinedOf
import Derived.SevenTiedAt
namespace Go.Proofs.YtnenmpeejjeopaaGreatDoor
open Go.ChangeShapes Go.WideShapes Go.ChangeAt Go.RowKit
set_option linter.unusedVariables false

theorem inst3 : Tryz.f3.isInstance Tryz.pinned.checked.prog Rows.relayoutNilRow.origin Rows.relayoutNilRow.targs := of_decide_eq_true (by kernel_rfl)
theorem wrap3 : Tryz.f3.isWrapper Tryz.pinned.checked.prog Rows.relayoutNilRow.wrapper Rows.relayoutNilRow.mainSum := by
  unfold Func.isWrapper
  first
    | (rw [if_pos (by decide +kernel)]; kernel_rfl)
    | (rw [if_neg (by decide +kernel)]; exact ⟨rfl, rfl⟩)
theorem named3 : Tryz.pinned.checked.prog.funcNamed Rows.relayoutNilRow.func = some 3 := by kernel_rfl
theorem byText3 : Rows.relayoutNilRow.wfByText (OpenSpec.ofChange Rows.relayoutNilSpec) = true := by kernel_rfl
theorem goes3 : false = Rows.relayoutNilRow.goesBy Tryz.pinned.checked.prog := by kernel_rfl
theorem main3 : Tryz.pinned.checked.prog.mainIs = some (true, "10e09a42a5762455978cb680cbe565b6ba8bac41bf93aca27718cbf0a5fbe3c1".toList) := by kernel_rfl
theorem looks3 : false = Tryz.pinned.checked.prog.looks [] := by kernel_rfl
theorem stand3 : Tryz.pinned.checked.prog.wantsStandIn 3 = false := by kernel_rfl
end Go.Proofs.YtnenmpeejjeopaaGreatDoor
