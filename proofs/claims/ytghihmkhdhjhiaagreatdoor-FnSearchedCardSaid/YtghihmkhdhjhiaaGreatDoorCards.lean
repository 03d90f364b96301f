/-
  DERIVED. GIVEN WITH THE SEED: THE CARDS: each row of YtghihmkhdhjhiaaGreatDoorRows.lean that lists a variable, with what it lists TIED to the program's text (the seventh form; the later family's looks); each row that meets fmt, with fmt's text TOLD by the authors' own Lean function (tested against real Go, not proved from fmt's source: count such statements apart). THE CARD IS WHAT COUNTS. Prove the row's statement (the work); the ties are given (YtghihmkhdhjhiaaGreatDoorTie.lean); close each card by the builder's one call (the guide's Derived/Test/ToyasCard.lean, 'card_holds'). Laid BY PROGRAM, IN A SANDBOX (cutbox-door.mjs). By AI agents, Wed Nov 11 2026. No macro, syntax, notation, axiom, sorry.
-/
import Derived.Test.YtghihmkhdhjhiaaGreatDoorRows
import GoSem.ClaimSeven
namespace Go.Proofs.YtghihmkhdhjhiaaGreatDoor
namespace Rows

/-- THE TIED CARD OF 'laws.FnSearched'. -/
def fnSearchedCard : Claim7 := { stood := { row := fnSearchedRow, standIns := [], harness := (true, "5d497a2d4c1416865e42638b603cffdd1c88ca5b62b81e95384835b2d7c48929"), looks := true }, kinds := [], alts := [], laidByText := true, laidKinds := [.data, .data, .data, .data, .sentinel, .sentinel, .pinned], laidTests := true, laidLooks := .later }
def FnSearchedCardSaid : Prop := Claim7.holds Tryz.pinned (.plain (OpenSpec.ofChange fnSearchedSpec)) fnSearchedCard

/-- THE SECOND FORM's CARD OF 'laws.FnSearched'. -/
def fnSearchedUptoCard : Claim7 := { stood := { row := fnSearchedUptoRow, standIns := [], harness := (true, "5d497a2d4c1416865e42638b603cffdd1c88ca5b62b81e95384835b2d7c48929"), looks := true }, kinds := [], alts := [], laidByText := true, laidKinds := [.data, .data, .data, .data, .sentinel, .sentinel, .pinned], laidTests := true, laidLooks := .later }
def FnSearchedUptoCardSaid : Prop := Claim7.holds Tryz.pinned (.plain (OpenSpec.upto fnSearchedSpec)) fnSearchedUptoCard
end Rows
end Go.Proofs.YtghihmkhdhjhiaaGreatDoor
