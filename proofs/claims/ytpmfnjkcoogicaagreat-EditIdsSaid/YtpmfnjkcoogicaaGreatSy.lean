/- editIds: the closed facts of its row, each by itself (together they outgrow the kernel's memory). -/
import Derived.Test.YtpmfnjkcoogicaaGreatRows
import Derived.ProofKit
import Derived.JoinedOf
namespace Go.Proofs.YtpmfnjkcoogicaaGreat
open Go.ChangeShapes Go.WideShapes Go.ChangeAt Go.RowKit
set_option linter.unusedVariables false
set_option maxRecDepth 100000

theorem fact1 : (Rows.editIdsRow.wf (OpenSpec.ofChange Rows.editIdsSpec)) = true := by kernel_rfl
theorem fact2 : (laidOutB Tryz.prog) = true := by kernel_rfl
theorem fact3 : (mapsRowed Tryz.prog) = true := by kernel_rfl
theorem fact4 : (Tryz.f4.params.all (Tryz.prog.readableRec ·)) = true := by kernel_rfl
theorem fact5 : (namedTie Tryz.prog Rows.editIdsRow.named Rows.editIdsSpec.vars) = true := by kernel_rfl
theorem fact6 : ((Rows.editIdsRow.stops == [])) = true := by kernel_rfl
theorem fact7 : ((Tryz.prog.stops == [])) = true := by kernel_rfl
theorem fact8 : ((Rows.editIdsRow.knobs == [])) = true := by kernel_rfl
theorem fact9 : ((Tryz.prog.stopKnobs == [])) = true := by kernel_rfl
theorem fact10 : ((Rows.editIdsRow.inPlace == Tryz.prog.inPlace 4)) = true := by kernel_rfl
theorem fact11 : ((Rows.editIdsRow.unfollowed == Tryz.prog.unfollowed 4)) = true := by kernel_rfl
theorem fact12 : ((Rows.editIdsRow.recurses == Tryz.prog.recurses 4)) = true := by kernel_rfl
theorem fact13 : ((Rows.editIdsRow.named == Tryz.prog.varsNamed 4)) = true := by kernel_rfl
theorem fact14 : ((Rows.editIdsRow.maps == (Tryz.f4.params.toList ++ Rows.editIdsSpec.plain.varTypes Tryz.prog).any (Tryz.prog.mapsRec ·))) = true := by kernel_rfl
theorem fact15 : ((Rows.editIdsRow.ifaces == (Tryz.f4.params.toList ++ Rows.editIdsSpec.plain.varTypes Tryz.prog).any (Tryz.prog.ifacesRec ·))) = true := by kernel_rfl
theorem fact16 : ((Rows.editIdsRow.mapsOut == Tryz.prog.mapsAmong Tryz.f4.resultTypes.toList)) = true := by kernel_rfl
theorem fact17 : ((Rows.editIdsRow.loops == (Tryz.f4.params.toList ++ Rows.editIdsSpec.plain.varTypes Tryz.prog).any (Tryz.prog.loopsFrom ·))) = true := by kernel_rfl
theorem fact18 : ((Rows.editIdsRow.wideKeys == (Tryz.f4.params.toList ++ Rows.editIdsSpec.plain.varTypes Tryz.prog ++ Tryz.f4.resultTypes.toList).any (Tryz.prog.wideKeysFrom ·))) = true := by kernel_rfl
theorem fact19 : (Rows.editIdsSpec.vars.all (Tryz.prog.varReadable ·)) = true := by kernel_rfl
theorem fact20 : (Tryz.f4.resultTypes.all (fun t => Tryz.prog.readableRec t && decide (t < Tryz.prog.types.size))) = true := by kernel_rfl
theorem fact21 : ((Rows.editIdsRow.ifacesOut == Tryz.f4.resultTypes.toList.any (Tryz.prog.ifacesRec ·))) = true := by kernel_rfl
theorem fact22 : ((Rows.editIdsRow.loopsOut == Tryz.f4.resultTypes.toList.any (Tryz.prog.loopsFrom ·))) = true := by kernel_rfl
theorem fact23 : ((Rows.editIdsRow.plainKeys == Tryz.prog.plainKeys)) = true := by kernel_rfl
theorem fact24 : (Rows.editIdsRow.shortTexts.isNone) = true := by kernel_rfl
theorem fact25 : (Tryz.prog.stopsHeard) = true := by kernel_rfl
theorem fact26 : (Tryz.prog.mayEnter) = true := by kernel_rfl
theorem fact27 : ((Rows.editIdsRow.lifted == Tryz.prog.liftsFinal)) = true := by kernel_rfl
theorem fact28 : ((Tryz.prog.make == some Rows.editIdsRow.make)) = true := by kernel_rfl
theorem fact29 : ((Rows.editIdsRow.kinds == (if Rows.editIdsRow.domain.isEmpty then [] else Tryz.f4.params.toList.map fun t => match Tryz.prog.underlying t with | some (.int k) => some k | _ => none))) = true := by kernel_rfl
theorem fact30 : ((Rows.editIdsRow.pinned == Rows.editIdsRow.pinnedBy)) = true := by kernel_rfl
theorem fact31 : ((Rows.editIdsRow.veiled == (Tryz.f4.params.toList ++ Rows.editIdsSpec.plain.varTypes Tryz.prog ++ Tryz.f4.resultTypes.toList).any (Tryz.prog.veiledRec ·))) = true := by kernel_rfl
theorem fact32 : (Rows.editIdsRow.veiledFits Tryz.prog Tryz.f4.params.toList (Tryz.f4.params.toList ++ Rows.editIdsSpec.plain.varTypes Tryz.prog ++ Tryz.f4.resultTypes.toList)) = true := by kernel_rfl
theorem band {a b : Bool} (h : a = true) (k : b = true) : (a && b) = true := by rw [h, k]; rfl
theorem facts : joinedFacts Tryz.pinned.checked.prog 4 Tryz.f4 Rows.editIdsSpec Rows.editIdsRow = true := band (band (band (band (band (band (band (band (band (band (band (band (band (band (band (band (band (band (band (band (band (band (band (band (band (band (band (band (band (band (band fact1 fact2) fact3) fact4) fact5) fact6) fact7) fact8) fact9) fact10) fact11) fact12) fact13) fact14) fact15) fact16) fact17) fact18) fact19) fact20) fact21) fact22) fact23) fact24) fact25) fact26) fact27) fact28) fact29) fact30) fact31) fact32
theorem instF : Tryz.f4.isInstance Tryz.pinned.checked.prog Rows.editIdsRow.origin Rows.editIdsRow.targs := of_decide_eq_true (by kernel_rfl)
theorem wrapF : Tryz.f4.isWrapper Tryz.pinned.checked.prog Rows.editIdsRow.wrapper Rows.editIdsRow.mainSum := by
  unfold Func.isWrapper
  first
    | (rw [if_pos (by decide +kernel)]; kernel_rfl)
    | (rw [if_neg (by decide +kernel)]; exact ⟨rfl, rfl⟩)
theorem namedF : Tryz.pinned.checked.prog.funcNamed Rows.editIdsRow.func = some 4 := by kernel_rfl
end Go.Proofs.YtpmfnjkcoogicaaGreat
