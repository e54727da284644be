/- RelayoutNil: the closed facts of its row, each by itself (together they outgrow the kernel's memory). -/
import Derived.Test.YtnenmpeejjeopaaGreatDoorRows
import Derived.ProofKit
import Derived.JoinedOf
namespace Go.Proofs.YtnenmpeejjeopaaGreatDoor
open Go.ChangeShapes Go.WideShapes Go.ChangeAt Go.RowKit
set_option linter.unusedVariables false

theorem fact1 : (Rows.relayoutNilRow.wf (OpenSpec.ofChange Rows.relayoutNilSpec)) = true := by kernel_rfl
theorem fact2 : (laidOutB Tryz.prog) = true := by kernel_rfl
theorem fact3 : (mapsRowed Tryz.prog) = true := by kernel_rfl
theorem fact4 : (Tryz.f3.params.all (Tryz.prog.readableRec ·)) = true := by kernel_rfl
theorem fact5 : (namedTie Tryz.prog Rows.relayoutNilRow.named Rows.relayoutNilSpec.vars) = true := by kernel_rfl
theorem fact6 : ((Rows.relayoutNilRow.stops == [])) = true := by kernel_rfl
theorem fact7 : ((Tryz.prog.stops == [])) = true := by kernel_rfl
theorem fact8 : ((Rows.relayoutNilRow.knobs == [])) = true := by kernel_rfl
theorem fact9 : ((Tryz.prog.stopKnobs == [])) = true := by kernel_rfl
theorem fact10 : ((Rows.relayoutNilRow.inPlace == Tryz.prog.inPlace 3)) = true := by kernel_rfl
theorem fact11 : ((Rows.relayoutNilRow.unfollowed == Tryz.prog.unfollowed 3)) = true := by kernel_rfl
theorem fact12 : ((Rows.relayoutNilRow.recurses == Tryz.prog.recurses 3)) = true := by kernel_rfl
theorem fact13 : ((Rows.relayoutNilRow.named == Tryz.prog.varsNamed 3)) = true := by kernel_rfl
theorem fact14 : ((Rows.relayoutNilRow.maps == (Tryz.f3.params.toList ++ Rows.relayoutNilSpec.plain.varTypes Tryz.prog).any (Tryz.prog.mapsRec ·))) = true := by kernel_rfl
theorem fact15 : ((Rows.relayoutNilRow.ifaces == (Tryz.f3.params.toList ++ Rows.relayoutNilSpec.plain.varTypes Tryz.prog).any (Tryz.prog.ifacesRec ·))) = true := by kernel_rfl
theorem fact16 : ((Rows.relayoutNilRow.mapsOut == Tryz.prog.mapsAmong Tryz.f3.resultTypes.toList)) = true := by kernel_rfl
theorem fact17 : ((Rows.relayoutNilRow.loops == (Tryz.f3.params.toList ++ Rows.relayoutNilSpec.plain.varTypes Tryz.prog).any (Tryz.prog.loopsFrom ·))) = true := by kernel_rfl
theorem fact18 : ((Rows.relayoutNilRow.wideKeys == (Tryz.f3.params.toList ++ Rows.relayoutNilSpec.plain.varTypes Tryz.prog ++ Tryz.f3.resultTypes.toList).any (Tryz.prog.wideKeysFrom ·))) = true := by kernel_rfl
theorem fact19 : (Rows.relayoutNilSpec.vars.all (Tryz.prog.varReadable ·)) = true := by kernel_rfl
theorem fact20 : (Tryz.f3.resultTypes.all (fun t => Tryz.prog.readableRec t && decide (t < Tryz.prog.types.size))) = true := by kernel_rfl
theorem fact21 : ((Rows.relayoutNilRow.ifacesOut == Tryz.f3.resultTypes.toList.any (Tryz.prog.ifacesRec ·))) = true := by kernel_rfl
theorem fact22 : ((Rows.relayoutNilRow.loopsOut == Tryz.f3.resultTypes.toList.any (Tryz.prog.loopsFrom ·))) = true := by kernel_rfl
theorem fact23 : ((Rows.relayoutNilRow.plainKeys == Tryz.prog.plainKeys)) = true := by kernel_rfl
theorem fact24 : (Rows.relayoutNilRow.shortTexts.isNone) = true := by kernel_rfl
theorem fact25 : (Tryz.prog.stopsHeard) = true := by kernel_rfl
theorem fact26 : (Tryz.prog.mayEnter) = true := by kernel_rfl
theorem fact27 : ((Rows.relayoutNilRow.lifted == Tryz.prog.liftsFinal)) = true := by kernel_rfl
theorem fact28 : ((Tryz.prog.make == some Rows.relayoutNilRow.make)) = true := by kernel_rfl
theorem fact29 : ((Rows.relayoutNilRow.kinds == (if Rows.relayoutNilRow.domain.isEmpty then [] else Tryz.f3.params.toList.map fun t => match Tryz.prog.underlying t with | some (.int k) => some k | _ => none))) = true := by kernel_rfl
theorem fact30 : ((Rows.relayoutNilRow.pinned == Rows.relayoutNilRow.pinnedBy)) = true := by kernel_rfl
theorem fact31 : ((Rows.relayoutNilRow.veiled == (Tryz.f3.params.toList ++ Rows.relayoutNilSpec.plain.varTypes Tryz.prog ++ Tryz.f3.resultTypes.toList).any (Tryz.prog.veiledRec ·))) = true := by kernel_rfl
theorem fact32 : (Rows.relayoutNilRow.veiledFits Tryz.prog Tryz.f3.params.toList (Tryz.f3.params.toList ++ Rows.relayoutNilSpec.plain.varTypes Tryz.prog ++ Tryz.f3.resultTypes.toList)) = true := by kernel_rfl
end Go.Proofs.YtnenmpeejjeopaaGreatDoor
