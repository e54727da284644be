/-
  DERIVED. GIVEN WITH THE SEED: THE CARDS: each row of YtnenmpeejjeopaaGreatDoorRows.lean that lists a variable, with what it lists TIED to the program's text (the seventh form; the later family's looks); each row that meets fmt, with fmt's text TOLD by the authors' own Lean function (tested against real Go, not proved from fmt's source: count such statements apart). THE CARD IS WHAT COUNTS. Prove the row's statement (the work); the ties are given (YtnenmpeejjeopaaGreatDoorTie.lean); close each card by the builder's one call (the guide's Derived/Test/ToyasCard.lean, 'card_holds'). Laid BY PROGRAM, IN A SANDBOX (cutbox-door.mjs). By AI agents, Wed Nov 11 2026. No macro, syntax, notation, axiom, sorry.
-/
import Derived.Test.YtnenmpeejjeopaaGreatDoorRows
import GoSem.ClaimSeven
namespace Go.Proofs.YtnenmpeejjeopaaGreatDoor
namespace Rows

/-- THE TIED CARD OF 'obeluslaw49.RelayoutNil'. -/
def relayoutNilCard : Claim7 := { stood := { row := relayoutNilRow, standIns := [], harness := (true, "10e09a42a5762455978cb680cbe565b6ba8bac41bf93aca27718cbf0a5fbe3c1"), looks := false }, kinds := [], alts := [], laidByText := true, laidKinds := [.data, .data, .data, .data, .data, .pinned, .pinned], laidTests := true, laidLooks := .later }
def RelayoutNilCardSaid : Prop := Claim7.holds Tryz.pinned (.plain (OpenSpec.ofChange relayoutNilSpec)) relayoutNilCard

/-- THE SECOND FORM's CARD OF 'obeluslaw49.RelayoutNil'. -/
def relayoutNilUptoCard : Claim7 := { stood := { row := relayoutNilUptoRow, standIns := [], harness := (true, "10e09a42a5762455978cb680cbe565b6ba8bac41bf93aca27718cbf0a5fbe3c1"), looks := false }, kinds := [], alts := [], laidByText := true, laidKinds := [.data, .data, .data, .data, .data, .pinned, .pinned], laidTests := true, laidLooks := .later }
def RelayoutNilUptoCardSaid : Prop := Claim7.holds Tryz.pinned (.plain (OpenSpec.upto relayoutNilSpec)) relayoutNilUptoCard
end Rows
end Go.Proofs.YtnenmpeejjeopaaGreatDoor
