/- editEquals: the closed facts of its row, each by itself (together they outgrow the kernel's memory). -/
import Derived.Test.YtpmfnjkcoogicaaGreatRows
import Derived.ProofKit
import Derived.JoinedOf
namespace Go.Proofs.YtpmfnjkcoogicaaGreat
open Go.ChangeShapes Go.WideShapes Go.ChangeAt Go.RowKit
set_option linter.unusedVariables false
set_option maxRecDepth 100000

theorem fact1 : (Rows.editEqualsRow.wf (OpenSpec.ofChange Rows.editEqualsSpec)) = true := by kernel_rfl
theorem fact2 : (laidOutB Tryz.prog) = true := by kernel_rfl
theorem fact3 : (mapsRowed Tryz.prog) = true := by kernel_rfl
theorem fact4 : (Tryz.f3.params.all (Tryz.prog.readableRec ·)) = true := by kernel_rfl
theorem fact5 : (namedTie Tryz.prog Rows.editEqualsRow.named Rows.editEqualsSpec.vars) = true := by kernel_rfl
theorem fact6 : ((Rows.editEqualsRow.stops == [])) = true := by kernel_rfl
theorem fact7 : ((Tryz.prog.stops == [])) = true := by kernel_rfl
theorem fact8 : ((Rows.editEqualsRow.knobs == [])) = true := by kernel_rfl
theorem fact9 : ((Tryz.prog.stopKnobs == [])) = true := by kernel_rfl
theorem fact10 : ((Rows.editEqualsRow.inPlace == Tryz.prog.inPlace 3)) = true := by kernel_rfl
theorem fact11 : ((Rows.editEqualsRow.unfollowed == Tryz.prog.unfollowed 3)) = true := by kernel_rfl
theorem fact12 : ((Rows.editEqualsRow.recurses == Tryz.prog.recurses 3)) = true := by kernel_rfl
theorem fact13 : ((Rows.editEqualsRow.named == Tryz.prog.varsNamed 3)) = true := by kernel_rfl
theorem fact14 : ((Rows.editEqualsRow.maps == (Tryz.f3.params.toList ++ Rows.editEqualsSpec.plain.varTypes Tryz.prog).any (Tryz.prog.mapsRec ·))) = true := by kernel_rfl
theorem fact15 : ((Rows.editEqualsRow.ifaces == (Tryz.f3.params.toList ++ Rows.editEqualsSpec.plain.varTypes Tryz.prog).any (Tryz.prog.ifacesRec ·))) = true := by kernel_rfl
theorem fact16 : ((Rows.editEqualsRow.mapsOut == Tryz.prog.mapsAmong Tryz.f3.resultTypes.toList)) = true := by kernel_rfl
theorem fact17 : ((Rows.editEqualsRow.loops == (Tryz.f3.params.toList ++ Rows.editEqualsSpec.plain.varTypes Tryz.prog).any (Tryz.prog.loopsFrom ·))) = true := by kernel_rfl
theorem fact18 : ((Rows.editEqualsRow.wideKeys == (Tryz.f3.params.toList ++ Rows.editEqualsSpec.plain.varTypes Tryz.prog ++ Tryz.f3.resultTypes.toList).any (Tryz.prog.wideKeysFrom ·))) = true := by kernel_rfl
theorem fact19 : (Rows.editEqualsSpec.vars.all (Tryz.prog.varReadable ·)) = true := by kernel_rfl
theorem fact20 : (Tryz.f3.resultTypes.all (fun t => Tryz.prog.readableRec t && decide (t < Tryz.prog.types.size))) = true := by kernel_rfl
theorem fact21 : ((Rows.editEqualsRow.ifacesOut == Tryz.f3.resultTypes.toList.any (Tryz.prog.ifacesRec ·))) = true := by kernel_rfl
theorem fact22 : ((Rows.editEqualsRow.loopsOut == Tryz.f3.resultTypes.toList.any (Tryz.prog.loopsFrom ·))) = true := by kernel_rfl
theorem fact23 : ((Rows.editEqualsRow.plainKeys == Tryz.prog.plainKeys)) = true := by kernel_rfl
theorem fact24 : (Rows.editEqualsRow.shortTexts.isNone) = true := by kernel_rfl
theorem fact25 : (Tryz.prog.stopsHeard) = true := by kernel_rfl
theorem fact26 : (Tryz.prog.mayEnter) = true := by kernel_rfl
theorem fact27 : ((Rows.editEqualsRow.lifted == Tryz.prog.liftsFinal)) = true := by kernel_rfl
theorem fact28 : ((Tryz.prog.make == some Rows.editEqualsRow.make)) = true := by kernel_rfl
theorem fact29 : ((Rows.editEqualsRow.kinds == (if Rows.editEqualsRow.domain.isEmpty then [] else Tryz.f3.params.toList.map fun t => match Tryz.prog.underlying t with | some (.int k) => some k | _ => none))) = true := by kernel_rfl
theorem fact30 : ((Rows.editEqualsRow.pinned == Rows.editEqualsRow.pinnedBy)) = true := by kernel_rfl
theorem fact31 : ((Rows.editEqualsRow.veiled == (Tryz.f3.params.toList ++ Rows.editEqualsSpec.plain.varTypes Tryz.prog ++ Tryz.f3.resultTypes.toList).any (Tryz.prog.veiledRec ·))) = true := by kernel_rfl
theorem fact32 : (Rows.editEqualsRow.veiledFits Tryz.prog Tryz.f3.params.toList (Tryz.f3.params.toList ++ Rows.editEqualsSpec.plain.varTypes Tryz.prog ++ Tryz.f3.resultTypes.toList)) = true := by kernel_rfl
theorem band {a b : Bool} (h : a = true) (k : b = true) : (a && b) = true := by rw [h, k]; rfl
theorem facts : joinedFacts Tryz.pinned.checked.prog 3 Tryz.f3 Rows.editEqualsSpec Rows.editEqualsRow = true := band (band (band (band (band (band (band (band (band (band (band (band (band (band (band (band (band (band (band (band (band (band (band (band (band (band (band (band (band (band (band fact1 fact2) fact3) fact4) fact5) fact6) fact7) fact8) fact9) fact10) fact11) fact12) fact13) fact14) fact15) fact16) fact17) fact18) fact19) fact20) fact21) fact22) fact23) fact24) fact25) fact26) fact27) fact28) fact29) fact30) fact31) fact32
theorem instF : Tryz.f3.isInstance Tryz.pinned.checked.prog Rows.editEqualsRow.origin Rows.editEqualsRow.targs := of_decide_eq_true (by kernel_rfl)
theorem wrapF : Tryz.f3.isWrapper Tryz.pinned.checked.prog Rows.editEqualsRow.wrapper Rows.editEqualsRow.mainSum := by
  unfold Func.isWrapper
  first
    | (rw [if_pos (by decide +kernel)]; kernel_rfl)
    | (rw [if_neg (by decide +kernel)]; exact ⟨rfl, rfl⟩)
theorem namedF : Tryz.pinned.checked.prog.funcNamed Rows.editEqualsRow.func = some 3 := by kernel_rfl
end Go.Proofs.YtpmfnjkcoogicaaGreat
