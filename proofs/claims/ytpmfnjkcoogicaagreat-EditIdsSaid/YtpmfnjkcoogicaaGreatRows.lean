/-
  NARROWER THAN 'FOR EVERY INPUT', by the rows' own cells (each row's printed sentence says how): EditEquals: loops · EditIds: loops.
  DERIVED. THE GIVEN ROWS OF THIS SEAT. 3 by the template 'for every input the law returns true; each argument reads behind the call as it read before'; 0 by the template 'total and deterministic' (their statements: YtpmfnjkcoogicaaGreatTotals.lean).
  GIVEN WITH THE SEED: the statements are not yours to turn. If you find one false, say at which input.
  Laid BY PROGRAM, IN A SANDBOX (cutbox-rows.mjs): the forced cells as the released guide's own fill.sh prints them over the translation 163545f94d033d22… (all of the seat's roots in one cut). By AI agents, Wed Nov 11 2026. No macro, syntax, notation, axiom, sorry.
-/
import Derived.Test.YtpmfnjkcoogicaaGreatChecked
import GoSem.Claim
import GoSem.ClaimJoined
import GoSem.ClaimMapViews
import Derived.JoinedTies
import Derived.KernelRfl
namespace Go.Proofs.YtpmfnjkcoogicaaGreat
/- THE CELL 'sum', in the pinned program and in every row, IS THE sha256 OF THE DUMP (.gsa) THAT YtpmfnjkcoogicaaGreatProg.lean LOADS. Nothing in Lean hashes anything: it is a label: what it is worth is what the hold of that sum in a sandbox is worth. -/
noncomputable def Tryz.pinned : Pinned := { name := "ytpmfnjkcoogicaagreat", sum := "163545f94d033d22846c1af6f1b1a7fa5664626861c5f9727206c1e8ea2a9e43", checked := Tryz.checked }
namespace Rows
def none {H : Type} : Left H := { results := [], args := [] }

/-- 'obeluslaw17.EditEquals': WHATEVER THE INPUT: true; the input reads as it did. -/
def editEqualsSpec : ChangeSpec := { name := "editEquals", fn := fun _ => fun
  | [d1, d2] => { results := [.lit (.bool true)], args := [d1, d2] }
  | _ => none }
def editEqualsRow : OpenClaim := { program := "ytpmfnjkcoogicaagreat", sum := "163545f94d033d22846c1af6f1b1a7fa5664626861c5f9727206c1e8ea2a9e43", func := "obelus/obeluslaw17.EditEquals", spec := "editEquals", inPlace := ["internal/abi.NoEscape", "slices.overlaps[obelus/api.Prop]", "slices.overlaps[obelus/api.Row]", "slices.overlaps[obelus/api.Cell]"], unfollowed := true, recurses := true, loops := true, apart := false }
def EditEqualsSaid : Prop := editEqualsRow.holds Tryz.pinned (OpenSpec.ofChange editEqualsSpec)

/-- ITS FALSE NEIGHBOUR: 'it returns false'. Refute it at one input. -/
def editEqualsWrong : ChangeSpec := { name := "editEquals", fn := fun _ => fun
  | [d1, d2] => { results := [.lit (.bool false)], args := [d1, d2] }
  | _ => none }
def EditEqualsWrongFalsely : Prop := editEqualsRow.holds Tryz.pinned (OpenSpec.ofChange editEqualsWrong)

/-- 'obeluslaw17.EditIds': WHATEVER THE INPUT: true; the input reads as it did. -/
def editIdsSpec : ChangeSpec := { name := "editIds", fn := fun _ => fun
  | [d] => { results := [.lit (.bool true)], args := [d] }
  | _ => none }
def editIdsRow : OpenClaim := { program := "ytpmfnjkcoogicaagreat", sum := "163545f94d033d22846c1af6f1b1a7fa5664626861c5f9727206c1e8ea2a9e43", func := "obelus/obeluslaw17.EditIds", spec := "editIds", inPlace := ["internal/abi.NoEscape", "slices.overlaps[obelus/api.Prop]", "slices.overlaps[obelus/api.Row]", "slices.overlaps[obelus/api.Cell]"], unfollowed := true, recurses := true, loops := true, apart := false }
def EditIdsSaid : Prop := editIdsRow.holds Tryz.pinned (OpenSpec.ofChange editIdsSpec)

/-- ITS FALSE NEIGHBOUR: 'it returns false'. Refute it at one input. -/
def editIdsWrong : ChangeSpec := { name := "editIds", fn := fun _ => fun
  | [d] => { results := [.lit (.bool false)], args := [d] }
  | _ => none }
def EditIdsWrongFalsely : Prop := editIdsRow.holds Tryz.pinned (OpenSpec.ofChange editIdsWrong)

/-- 'obeluslaw17.EditWords': WHATEVER THE INPUT: true; the input reads as it did. -/
def editWordsSpec : ChangeSpec := { name := "editWords", fn := fun _ => fun
  | [d1, d2] => { results := [.lit (.bool true)], args := [d1, d2] }
  | _ => none }
def editWordsRow : OpenClaim := { program := "ytpmfnjkcoogicaagreat", sum := "163545f94d033d22846c1af6f1b1a7fa5664626861c5f9727206c1e8ea2a9e43", func := "obelus/obeluslaw17.EditWords", spec := "editWords", inPlace := ["internal/abi.NoEscape", "slices.overlaps[obelus/api.Prop]", "slices.overlaps[obelus/api.Row]", "slices.overlaps[obelus/api.Cell]"], unfollowed := true, recurses := true, apart := false }
def EditWordsSaid : Prop := editWordsRow.holds Tryz.pinned (OpenSpec.ofChange editWordsSpec)

/-- ITS FALSE NEIGHBOUR: 'it returns false'. Refute it at one input. -/
def editWordsWrong : ChangeSpec := { name := "editWords", fn := fun _ => fun
  | [d1, d2] => { results := [.lit (.bool false)], args := [d1, d2] }
  | _ => none }
def EditWordsWrongFalsely : Prop := editWordsRow.holds Tryz.pinned (OpenSpec.ofChange editWordsWrong)

/- THE SECOND FORM. 'bulk': how many values and letters a reading holds, each counted each time it is reached (what is shared counts as often as it is met; a slice's spare places count too). A statement '..UptoSaid' is the law's where the arguments, and the package variables that the reading takes, are together of bulk at most 1048576: NARROWER than '..Said'. Prove '..Said' where nothing that the law and all that it calls make is longer than what came in: it says more and counts as full. Else prove '..UptoSaid'. A law counts once. -/
mutual
def uptoBulk {H : Type} : DataW H → Nat
  | .lit (.string bytes) => bytes.length + 1
  | .lit _ => 1
  | .nil => 1
  | .ptr d => uptoBulk d + 1
  | .slice elems spare => uptoBulkAll elems + uptoBulkAll spare + 1
  | .agg parts => uptoBulkAll parts + 1
  | .iface _ d => uptoBulk d + 1
  | .map entries => uptoBulkEntries entries + 1
  | .held _ => 1
def uptoBulkAll {H : Type} : List (DataW H) → Nat
  | [] => 0
  | d :: r => uptoBulk d + uptoBulkAll r
def uptoBulkEntries {H : Type} : List (Lit × DataW H) → Nat
  | [] => 0
  | x :: r => uptoBulkEntry x + uptoBulkEntries r
def uptoBulkEntry {H : Type} : Lit × DataW H → Nat
  | (.string bytes, d) => bytes.length + uptoBulk d + 1
  | (_, d) => uptoBulk d + 1
 end
def uptoSmall : (H : Type) → List (DataW H) → Bool := fun _ ds => decide (uptoBulkAll ds ≤ 1048576)
def OpenSpec.upto (s : _root_.Go.ChangeSpec) : _root_.Go.OpenSpec := { _root_.Go.OpenSpec.ofChange s with cond := some uptoSmall }

/-- 'obeluslaw17.EditEquals', WHERE WHAT IT READS IS OF BULK AT MOST 1048576: true; the input reads as it did. -/
def editEqualsUptoRow : OpenClaim := { program := "ytpmfnjkcoogicaagreat", sum := "163545f94d033d22846c1af6f1b1a7fa5664626861c5f9727206c1e8ea2a9e43", func := "obelus/obeluslaw17.EditEquals", spec := "editEquals", inPlace := ["internal/abi.NoEscape", "slices.overlaps[obelus/api.Prop]", "slices.overlaps[obelus/api.Row]", "slices.overlaps[obelus/api.Cell]"], unfollowed := true, recurses := true, loops := true, apart := false, narrowed := true }
def EditEqualsUptoSaid : Prop := editEqualsUptoRow.holds Tryz.pinned (OpenSpec.upto editEqualsSpec)

/-- 'obeluslaw17.EditIds', WHERE WHAT IT READS IS OF BULK AT MOST 1048576: true; the input reads as it did. -/
def editIdsUptoRow : OpenClaim := { program := "ytpmfnjkcoogicaagreat", sum := "163545f94d033d22846c1af6f1b1a7fa5664626861c5f9727206c1e8ea2a9e43", func := "obelus/obeluslaw17.EditIds", spec := "editIds", inPlace := ["internal/abi.NoEscape", "slices.overlaps[obelus/api.Prop]", "slices.overlaps[obelus/api.Row]", "slices.overlaps[obelus/api.Cell]"], unfollowed := true, recurses := true, loops := true, apart := false, narrowed := true }
def EditIdsUptoSaid : Prop := editIdsUptoRow.holds Tryz.pinned (OpenSpec.upto editIdsSpec)

/-- 'obeluslaw17.EditWords', WHERE WHAT IT READS IS OF BULK AT MOST 1048576: true; the input reads as it did. -/
def editWordsUptoRow : OpenClaim := { program := "ytpmfnjkcoogicaagreat", sum := "163545f94d033d22846c1af6f1b1a7fa5664626861c5f9727206c1e8ea2a9e43", func := "obelus/obeluslaw17.EditWords", spec := "editWords", inPlace := ["internal/abi.NoEscape", "slices.overlaps[obelus/api.Prop]", "slices.overlaps[obelus/api.Row]", "slices.overlaps[obelus/api.Cell]"], unfollowed := true, recurses := true, apart := false, narrowed := true }
def EditWordsUptoSaid : Prop := editWordsUptoRow.holds Tryz.pinned (OpenSpec.upto editWordsSpec)

end Rows
end Go.Proofs.YtpmfnjkcoogicaaGreat
