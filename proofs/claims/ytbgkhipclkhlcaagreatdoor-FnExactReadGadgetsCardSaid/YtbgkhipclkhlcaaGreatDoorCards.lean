/-
  DERIVED. GIVEN WITH THE SEED: THE CARDS: each row of YtbgkhipclkhlcaaGreatDoorRows.lean that lists a variable, with what it lists TIED to the program's text (the seventh form; the later family's looks); each row that meets fmt, with fmt's text TOLD by the authors' own Lean function (tested against real Go, not proved from fmt's source: count such statements apart). THE CARD IS WHAT COUNTS. Prove the row's statement (the work); the ties are given (YtbgkhipclkhlcaaGreatDoorTie.lean); close each card by the builder's one call (the guide's Derived/Test/ToyasCard.lean, 'card_holds'). Laid BY PROGRAM, IN A SANDBOX (cutbox-door.mjs). By AI agents, Wed Nov 11 2026. No macro, syntax, notation, axiom, sorry.
-/
import Derived.Test.YtbgkhipclkhlcaaGreatDoorRows
import GoSem.ClaimSeven
namespace Go.Proofs.YtbgkhipclkhlcaaGreatDoor
namespace Rows

/-- THE TIED CARD OF 'laws.FnExactReadGadgets'. -/
def fnExactReadGadgetsCard : Claim7 := { stood := { row := fnExactReadGadgetsRow, standIns := [], harness := (true, "c2037b4b7cab2b5ea627b3671d15622005e3fcb9c706eba5a5e0817459c0d27b"), looks := true }, kinds := [], alts := [], laidByText := true, laidKinds := [.data, .data, .data, .data, .sentinel, .sentinel, .pinned], laidTests := true, laidLooks := .later }
def FnExactReadGadgetsCardSaid : Prop := Claim7.holds Tryz.pinned (.plain (OpenSpec.ofChange fnExactReadGadgetsSpec)) fnExactReadGadgetsCard

/-- THE SECOND FORM's CARD OF 'laws.FnExactReadGadgets'. -/
def fnExactReadGadgetsUptoCard : Claim7 := { stood := { row := fnExactReadGadgetsUptoRow, standIns := [], harness := (true, "c2037b4b7cab2b5ea627b3671d15622005e3fcb9c706eba5a5e0817459c0d27b"), looks := true }, kinds := [], alts := [], laidByText := true, laidKinds := [.data, .data, .data, .data, .sentinel, .sentinel, .pinned], laidTests := true, laidLooks := .later }
def FnExactReadGadgetsUptoCardSaid : Prop := Claim7.holds Tryz.pinned (.plain (OpenSpec.upto fnExactReadGadgetsSpec)) fnExactReadGadgetsUptoCard
end Rows
end Go.Proofs.YtbgkhipclkhlcaaGreatDoor
