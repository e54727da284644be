/-
  No cell of these rows narrows 'for every input' (looked for: loops, veiled, ifaces, maps, wideKeys, modest, calm, conditions, laid).
  DERIVED. THE GIVEN ROWS OF THIS SEAT. 10 by the template 'for every input the law returns true; each argument reads behind the call as it read before'; 0 by the template 'total and deterministic' (their statements: YtpkeceifnmmhcaaTotals.lean).
  GIVEN WITH THE SEED: the statements are not yours to turn. If you find one false, say at which input.
  Laid BY PROGRAM, IN A SANDBOX (cutbox-rows.mjs): the forced cells as the released guide's own fill.sh prints them over the translation c12a09154710312c… (all of the seat's roots in one cut). By AI agents, Wed Nov 11 2026. No macro, syntax, notation, axiom, sorry.
-/
import Derived.Test.YtpkeceifnmmhcaaChecked
import GoSem.Claim
import GoSem.ClaimJoined
import GoSem.ClaimMapViews
import Derived.JoinedTies
import Derived.KernelRfl
namespace Go.Proofs.Ytpkeceifnmmhcaa
/- THE CELL 'sum', in the pinned program and in every row, IS THE sha256 OF THE DUMP (.gsa) THAT YtpkeceifnmmhcaaProg.lean LOADS. Nothing in Lean hashes anything: it is a label: what it is worth is what the hold of that sum in a sandbox is worth. -/
noncomputable def Try.pinned : Pinned := { name := "ytpkeceifnmmhcaa", sum := "c12a09154710312c2850667e805b9d4ce446fb1f25ec3dfa0b8478ec0aab7c09", checked := Try.checked }
namespace Rows
def none {H : Type} : Left H := { results := [], args := [] }

/-- 'obeluslaw48.PaginateFits': WHATEVER THE INPUT: true; the input reads as it did. -/
def paginateFitsSpec : ChangeSpec := { name := "paginateFits", fn := fun _ => fun
  | [d1, d2] => { results := [.lit (.bool true)], args := [d1, d2] }
  | _ => none }
def paginateFitsRow : OpenClaim := { program := "ytpkeceifnmmhcaa", sum := "c12a09154710312c2850667e805b9d4ce446fb1f25ec3dfa0b8478ec0aab7c09", func := "obelus/obeluslaw48.PaginateFits", spec := "paginateFits", unfollowed := true, recurses := true, apart := false }
def PaginateFitsSaid : Prop := paginateFitsRow.holds Try.pinned (OpenSpec.ofChange paginateFitsSpec)

/-- ITS FALSE NEIGHBOUR: 'it returns false'. Refute it at one input. -/
def paginateFitsWrong : ChangeSpec := { name := "paginateFits", fn := fun _ => fun
  | [d1, d2] => { results := [.lit (.bool false)], args := [d1, d2] }
  | _ => none }
def PaginateFitsWrongFalsely : Prop := paginateFitsRow.holds Try.pinned (OpenSpec.ofChange paginateFitsWrong)

/-- 'obeluslaw48.PaginatePlaces': WHATEVER THE INPUT: true; the input reads as it did. -/
def paginatePlacesSpec : ChangeSpec := { name := "paginatePlaces", fn := fun _ => fun
  | [d1, d2, d3] => { results := [.lit (.bool true)], args := [d1, d2, d3] }
  | _ => none }
def paginatePlacesRow : OpenClaim := { program := "ytpkeceifnmmhcaa", sum := "c12a09154710312c2850667e805b9d4ce446fb1f25ec3dfa0b8478ec0aab7c09", func := "obelus/obeluslaw48.PaginatePlaces", spec := "paginatePlaces", unfollowed := true, recurses := true, apart := false }
def PaginatePlacesSaid : Prop := paginatePlacesRow.holds Try.pinned (OpenSpec.ofChange paginatePlacesSpec)

/-- ITS FALSE NEIGHBOUR: 'it returns false'. Refute it at one input. -/
def paginatePlacesWrong : ChangeSpec := { name := "paginatePlaces", fn := fun _ => fun
  | [d1, d2, d3] => { results := [.lit (.bool false)], args := [d1, d2, d3] }
  | _ => none }
def PaginatePlacesWrongFalsely : Prop := paginatePlacesRow.holds Try.pinned (OpenSpec.ofChange paginatePlacesWrong)

/-- 'obeluslaw48.PaginateStacks': WHATEVER THE INPUT: true; the input reads as it did. -/
def paginateStacksSpec : ChangeSpec := { name := "paginateStacks", fn := fun _ => fun
  | [d1, d2] => { results := [.lit (.bool true)], args := [d1, d2] }
  | _ => none }
def paginateStacksRow : OpenClaim := { program := "ytpkeceifnmmhcaa", sum := "c12a09154710312c2850667e805b9d4ce446fb1f25ec3dfa0b8478ec0aab7c09", func := "obelus/obeluslaw48.PaginateStacks", spec := "paginateStacks", unfollowed := true, recurses := true, apart := false }
def PaginateStacksSaid : Prop := paginateStacksRow.holds Try.pinned (OpenSpec.ofChange paginateStacksSpec)

/-- ITS FALSE NEIGHBOUR: 'it returns false'. Refute it at one input. -/
def paginateStacksWrong : ChangeSpec := { name := "paginateStacks", fn := fun _ => fun
  | [d1, d2] => { results := [.lit (.bool false)], args := [d1, d2] }
  | _ => none }
def PaginateStacksWrongFalsely : Prop := paginateStacksRow.holds Try.pinned (OpenSpec.ofChange paginateStacksWrong)

/-- 'obeluslaw48.PaginateFills': WHATEVER THE INPUT: true; the input reads as it did. -/
def paginateFillsSpec : ChangeSpec := { name := "paginateFills", fn := fun _ => fun
  | [d1, d2, d3] => { results := [.lit (.bool true)], args := [d1, d2, d3] }
  | _ => none }
def paginateFillsRow : OpenClaim := { program := "ytpkeceifnmmhcaa", sum := "c12a09154710312c2850667e805b9d4ce446fb1f25ec3dfa0b8478ec0aab7c09", func := "obelus/obeluslaw48.PaginateFills", spec := "paginateFills", unfollowed := true, recurses := true, apart := false }
def PaginateFillsSaid : Prop := paginateFillsRow.holds Try.pinned (OpenSpec.ofChange paginateFillsSpec)

/-- ITS FALSE NEIGHBOUR: 'it returns false'. Refute it at one input. -/
def paginateFillsWrong : ChangeSpec := { name := "paginateFills", fn := fun _ => fun
  | [d1, d2, d3] => { results := [.lit (.bool false)], args := [d1, d2, d3] }
  | _ => none }
def PaginateFillsWrongFalsely : Prop := paginateFillsRow.holds Try.pinned (OpenSpec.ofChange paginateFillsWrong)

/-- 'obeluslaw49.RelayoutCommon': WHATEVER THE INPUT: true; the input reads as it did. -/
def relayoutCommonSpec : ChangeSpec := { name := "relayoutCommon", fn := fun _ => fun
  | [d1, d2] => { results := [.lit (.bool true)], args := [d1, d2] }
  | _ => none }
def relayoutCommonRow : OpenClaim := { program := "ytpkeceifnmmhcaa", sum := "c12a09154710312c2850667e805b9d4ce446fb1f25ec3dfa0b8478ec0aab7c09", func := "obelus/obeluslaw49.RelayoutCommon", spec := "relayoutCommon", unfollowed := true, recurses := true, apart := false }
def RelayoutCommonSaid : Prop := relayoutCommonRow.holds Try.pinned (OpenSpec.ofChange relayoutCommonSpec)

/-- ITS FALSE NEIGHBOUR: 'it returns false'. Refute it at one input. -/
def relayoutCommonWrong : ChangeSpec := { name := "relayoutCommon", fn := fun _ => fun
  | [d1, d2] => { results := [.lit (.bool false)], args := [d1, d2] }
  | _ => none }
def RelayoutCommonWrongFalsely : Prop := relayoutCommonRow.holds Try.pinned (OpenSpec.ofChange relayoutCommonWrong)

/-- 'obeluslaw49.RelayoutReaches': WHATEVER THE INPUT: true; the input reads as it did. -/
def relayoutReachesSpec : ChangeSpec := { name := "relayoutReaches", fn := fun _ => fun
  | [d1, d2, d3] => { results := [.lit (.bool true)], args := [d1, d2, d3] }
  | _ => none }
def relayoutReachesRow : OpenClaim := { program := "ytpkeceifnmmhcaa", sum := "c12a09154710312c2850667e805b9d4ce446fb1f25ec3dfa0b8478ec0aab7c09", func := "obelus/obeluslaw49.RelayoutReaches", spec := "relayoutReaches", unfollowed := true, recurses := true, apart := false }
def RelayoutReachesSaid : Prop := relayoutReachesRow.holds Try.pinned (OpenSpec.ofChange relayoutReachesSpec)

/-- ITS FALSE NEIGHBOUR: 'it returns false'. Refute it at one input. -/
def relayoutReachesWrong : ChangeSpec := { name := "relayoutReaches", fn := fun _ => fun
  | [d1, d2, d3] => { results := [.lit (.bool false)], args := [d1, d2, d3] }
  | _ => none }
def RelayoutReachesWrongFalsely : Prop := relayoutReachesRow.holds Try.pinned (OpenSpec.ofChange relayoutReachesWrong)

/-- 'obeluslaw49.RelayoutRebreaks': WHATEVER THE INPUT: true; the input reads as it did. -/
def relayoutRebreaksSpec : ChangeSpec := { name := "relayoutRebreaks", fn := fun _ => fun
  | [d1, d2, d3] => { results := [.lit (.bool true)], args := [d1, d2, d3] }
  | _ => none }
def relayoutRebreaksRow : OpenClaim := { program := "ytpkeceifnmmhcaa", sum := "c12a09154710312c2850667e805b9d4ce446fb1f25ec3dfa0b8478ec0aab7c09", func := "obelus/obeluslaw49.RelayoutRebreaks", spec := "relayoutRebreaks", unfollowed := true, recurses := true, apart := false }
def RelayoutRebreaksSaid : Prop := relayoutRebreaksRow.holds Try.pinned (OpenSpec.ofChange relayoutRebreaksSpec)

/-- ITS FALSE NEIGHBOUR: 'it returns false'. Refute it at one input. -/
def relayoutRebreaksWrong : ChangeSpec := { name := "relayoutRebreaks", fn := fun _ => fun
  | [d1, d2, d3] => { results := [.lit (.bool false)], args := [d1, d2, d3] }
  | _ => none }
def RelayoutRebreaksWrongFalsely : Prop := relayoutRebreaksRow.holds Try.pinned (OpenSpec.ofChange relayoutRebreaksWrong)

/-- 'obeluslaw49.RelayoutRefuses': WHATEVER THE INPUT: true; the input reads as it did. -/
def relayoutRefusesSpec : ChangeSpec := { name := "relayoutRefuses", fn := fun _ => fun
  | [d1, d2, d3] => { results := [.lit (.bool true)], args := [d1, d2, d3] }
  | _ => none }
def relayoutRefusesRow : OpenClaim := { program := "ytpkeceifnmmhcaa", sum := "c12a09154710312c2850667e805b9d4ce446fb1f25ec3dfa0b8478ec0aab7c09", func := "obelus/obeluslaw49.RelayoutRefuses", spec := "relayoutRefuses", unfollowed := true, recurses := true, apart := false }
def RelayoutRefusesSaid : Prop := relayoutRefusesRow.holds Try.pinned (OpenSpec.ofChange relayoutRefusesSpec)

/-- ITS FALSE NEIGHBOUR: 'it returns false'. Refute it at one input. -/
def relayoutRefusesWrong : ChangeSpec := { name := "relayoutRefuses", fn := fun _ => fun
  | [d1, d2, d3] => { results := [.lit (.bool false)], args := [d1, d2, d3] }
  | _ => none }
def RelayoutRefusesWrongFalsely : Prop := relayoutRefusesRow.holds Try.pinned (OpenSpec.ofChange relayoutRefusesWrong)

/-- 'obeluslaw49.RelayoutLocal': WHATEVER THE INPUT: true; the input reads as it did. -/
def relayoutLocalSpec : ChangeSpec := { name := "relayoutLocal", fn := fun _ => fun
  | [d1, d2, d3] => { results := [.lit (.bool true)], args := [d1, d2, d3] }
  | _ => none }
def relayoutLocalRow : OpenClaim := { program := "ytpkeceifnmmhcaa", sum := "c12a09154710312c2850667e805b9d4ce446fb1f25ec3dfa0b8478ec0aab7c09", func := "obelus/obeluslaw49.RelayoutLocal", spec := "relayoutLocal", unfollowed := true, recurses := true, apart := false }
def RelayoutLocalSaid : Prop := relayoutLocalRow.holds Try.pinned (OpenSpec.ofChange relayoutLocalSpec)

/-- ITS FALSE NEIGHBOUR: 'it returns false'. Refute it at one input. -/
def relayoutLocalWrong : ChangeSpec := { name := "relayoutLocal", fn := fun _ => fun
  | [d1, d2, d3] => { results := [.lit (.bool false)], args := [d1, d2, d3] }
  | _ => none }
def RelayoutLocalWrongFalsely : Prop := relayoutLocalRow.holds Try.pinned (OpenSpec.ofChange relayoutLocalWrong)

/-- 'obeluslaw48.PaginateAreas': WHATEVER THE INPUT: true; the input reads as it did. -/
def paginateAreasSpec : ChangeSpec := { name := "paginateAreas", fn := fun _ => fun
  | [d] => { results := [.lit (.bool true)], args := [d] }
  | _ => none }
def paginateAreasRow : OpenClaim := { program := "ytpkeceifnmmhcaa", sum := "c12a09154710312c2850667e805b9d4ce446fb1f25ec3dfa0b8478ec0aab7c09", func := "obelus/obeluslaw48.PaginateAreas", spec := "paginateAreas", unfollowed := true, recurses := true, apart := false }
def PaginateAreasSaid : Prop := paginateAreasRow.holds Try.pinned (OpenSpec.ofChange paginateAreasSpec)

/-- ITS FALSE NEIGHBOUR: 'it returns false'. Refute it at one input. -/
def paginateAreasWrong : ChangeSpec := { name := "paginateAreas", fn := fun _ => fun
  | [d] => { results := [.lit (.bool false)], args := [d] }
  | _ => none }
def PaginateAreasWrongFalsely : Prop := paginateAreasRow.holds Try.pinned (OpenSpec.ofChange paginateAreasWrong)

/- THE SECOND FORM. 'bulk': how many values and letters a reading holds, each counted each time it is reached (what is shared counts as often as it is met; a slice's spare places count too). A statement '..UptoSaid' is the law's where the arguments, and the package variables that the reading takes, are together of bulk at most 1048576: NARROWER than '..Said'. Prove '..Said' where nothing that the law and all that it calls make is longer than what came in: it says more and counts as full. Else prove '..UptoSaid'. A law counts once. -/
mutual
def uptoBulk {H : Type} : DataW H → Nat
  | .lit (.string bytes) => bytes.length + 1
  | .lit _ => 1
  | .nil => 1
  | .ptr d => uptoBulk d + 1
  | .slice elems spare => uptoBulkAll elems + uptoBulkAll spare + 1
  | .agg parts => uptoBulkAll parts + 1
  | .iface _ d => uptoBulk d + 1
  | .map entries => uptoBulkEntries entries + 1
  | .held _ => 1
def uptoBulkAll {H : Type} : List (DataW H) → Nat
  | [] => 0
  | d :: r => uptoBulk d + uptoBulkAll r
def uptoBulkEntries {H : Type} : List (Lit × DataW H) → Nat
  | [] => 0
  | x :: r => uptoBulkEntry x + uptoBulkEntries r
def uptoBulkEntry {H : Type} : Lit × DataW H → Nat
  | (.string bytes, d) => bytes.length + uptoBulk d + 1
  | (_, d) => uptoBulk d + 1
 end
def uptoSmall : (H : Type) → List (DataW H) → Bool := fun _ ds => decide (uptoBulkAll ds ≤ 1048576)
def OpenSpec.upto (s : _root_.Go.ChangeSpec) : _root_.Go.OpenSpec := { _root_.Go.OpenSpec.ofChange s with cond := some uptoSmall }

/-- 'obeluslaw48.PaginateFits', WHERE WHAT IT READS IS OF BULK AT MOST 1048576: true; the input reads as it did. -/
def paginateFitsUptoRow : OpenClaim := { program := "ytpkeceifnmmhcaa", sum := "c12a09154710312c2850667e805b9d4ce446fb1f25ec3dfa0b8478ec0aab7c09", func := "obelus/obeluslaw48.PaginateFits", spec := "paginateFits", unfollowed := true, recurses := true, apart := false, narrowed := true }
def PaginateFitsUptoSaid : Prop := paginateFitsUptoRow.holds Try.pinned (OpenSpec.upto paginateFitsSpec)

/-- 'obeluslaw48.PaginatePlaces', WHERE WHAT IT READS IS OF BULK AT MOST 1048576: true; the input reads as it did. -/
def paginatePlacesUptoRow : OpenClaim := { program := "ytpkeceifnmmhcaa", sum := "c12a09154710312c2850667e805b9d4ce446fb1f25ec3dfa0b8478ec0aab7c09", func := "obelus/obeluslaw48.PaginatePlaces", spec := "paginatePlaces", unfollowed := true, recurses := true, apart := false, narrowed := true }
def PaginatePlacesUptoSaid : Prop := paginatePlacesUptoRow.holds Try.pinned (OpenSpec.upto paginatePlacesSpec)

/-- 'obeluslaw48.PaginateStacks', WHERE WHAT IT READS IS OF BULK AT MOST 1048576: true; the input reads as it did. -/
def paginateStacksUptoRow : OpenClaim := { program := "ytpkeceifnmmhcaa", sum := "c12a09154710312c2850667e805b9d4ce446fb1f25ec3dfa0b8478ec0aab7c09", func := "obelus/obeluslaw48.PaginateStacks", spec := "paginateStacks", unfollowed := true, recurses := true, apart := false, narrowed := true }
def PaginateStacksUptoSaid : Prop := paginateStacksUptoRow.holds Try.pinned (OpenSpec.upto paginateStacksSpec)

/-- 'obeluslaw48.PaginateFills', WHERE WHAT IT READS IS OF BULK AT MOST 1048576: true; the input reads as it did. -/
def paginateFillsUptoRow : OpenClaim := { program := "ytpkeceifnmmhcaa", sum := "c12a09154710312c2850667e805b9d4ce446fb1f25ec3dfa0b8478ec0aab7c09", func := "obelus/obeluslaw48.PaginateFills", spec := "paginateFills", unfollowed := true, recurses := true, apart := false, narrowed := true }
def PaginateFillsUptoSaid : Prop := paginateFillsUptoRow.holds Try.pinned (OpenSpec.upto paginateFillsSpec)

/-- 'obeluslaw49.RelayoutCommon', WHERE WHAT IT READS IS OF BULK AT MOST 1048576: true; the input reads as it did. -/
def relayoutCommonUptoRow : OpenClaim := { program := "ytpkeceifnmmhcaa", sum := "c12a09154710312c2850667e805b9d4ce446fb1f25ec3dfa0b8478ec0aab7c09", func := "obelus/obeluslaw49.RelayoutCommon", spec := "relayoutCommon", unfollowed := true, recurses := true, apart := false, narrowed := true }
def RelayoutCommonUptoSaid : Prop := relayoutCommonUptoRow.holds Try.pinned (OpenSpec.upto relayoutCommonSpec)

/-- 'obeluslaw49.RelayoutReaches', WHERE WHAT IT READS IS OF BULK AT MOST 1048576: true; the input reads as it did. -/
def relayoutReachesUptoRow : OpenClaim := { program := "ytpkeceifnmmhcaa", sum := "c12a09154710312c2850667e805b9d4ce446fb1f25ec3dfa0b8478ec0aab7c09", func := "obelus/obeluslaw49.RelayoutReaches", spec := "relayoutReaches", unfollowed := true, recurses := true, apart := false, narrowed := true }
def RelayoutReachesUptoSaid : Prop := relayoutReachesUptoRow.holds Try.pinned (OpenSpec.upto relayoutReachesSpec)

/-- 'obeluslaw49.RelayoutRebreaks', WHERE WHAT IT READS IS OF BULK AT MOST 1048576: true; the input reads as it did. -/
def relayoutRebreaksUptoRow : OpenClaim := { program := "ytpkeceifnmmhcaa", sum := "c12a09154710312c2850667e805b9d4ce446fb1f25ec3dfa0b8478ec0aab7c09", func := "obelus/obeluslaw49.RelayoutRebreaks", spec := "relayoutRebreaks", unfollowed := true, recurses := true, apart := false, narrowed := true }
def RelayoutRebreaksUptoSaid : Prop := relayoutRebreaksUptoRow.holds Try.pinned (OpenSpec.upto relayoutRebreaksSpec)

/-- 'obeluslaw49.RelayoutRefuses', WHERE WHAT IT READS IS OF BULK AT MOST 1048576: true; the input reads as it did. -/
def relayoutRefusesUptoRow : OpenClaim := { program := "ytpkeceifnmmhcaa", sum := "c12a09154710312c2850667e805b9d4ce446fb1f25ec3dfa0b8478ec0aab7c09", func := "obelus/obeluslaw49.RelayoutRefuses", spec := "relayoutRefuses", unfollowed := true, recurses := true, apart := false, narrowed := true }
def RelayoutRefusesUptoSaid : Prop := relayoutRefusesUptoRow.holds Try.pinned (OpenSpec.upto relayoutRefusesSpec)

/-- 'obeluslaw49.RelayoutLocal', WHERE WHAT IT READS IS OF BULK AT MOST 1048576: true; the input reads as it did. -/
def relayoutLocalUptoRow : OpenClaim := { program := "ytpkeceifnmmhcaa", sum := "c12a09154710312c2850667e805b9d4ce446fb1f25ec3dfa0b8478ec0aab7c09", func := "obelus/obeluslaw49.RelayoutLocal", spec := "relayoutLocal", unfollowed := true, recurses := true, apart := false, narrowed := true }
def RelayoutLocalUptoSaid : Prop := relayoutLocalUptoRow.holds Try.pinned (OpenSpec.upto relayoutLocalSpec)

/-- 'obeluslaw48.PaginateAreas', WHERE WHAT IT READS IS OF BULK AT MOST 1048576: true; the input reads as it did. -/
def paginateAreasUptoRow : OpenClaim := { program := "ytpkeceifnmmhcaa", sum := "c12a09154710312c2850667e805b9d4ce446fb1f25ec3dfa0b8478ec0aab7c09", func := "obelus/obeluslaw48.PaginateAreas", spec := "paginateAreas", unfollowed := true, recurses := true, apart := false, narrowed := true }
def PaginateAreasUptoSaid : Prop := paginateAreasUptoRow.holds Try.pinned (OpenSpec.upto paginateAreasSpec)

end Rows
end Go.Proofs.Ytpkeceifnmmhcaa
