/-
  DERIVED. GIVEN WITH THE SEED: THE CARDS: each row of YtfmnjkpddljdcaaGreatDoorRows.lean that lists a variable, with what it lists TIED to the program's text (the seventh form; the later family's looks); each row that meets fmt, with fmt's text TOLD by the authors' own Lean function (tested against real Go, not proved from fmt's source: count such statements apart). THE CARD IS WHAT COUNTS. Prove the row's statement (the work); the ties are given (YtfmnjkpddljdcaaGreatDoorTie.lean); close each card by the builder's one call (the guide's Derived/Test/ToyasCard.lean, 'card_holds'). Laid BY PROGRAM, IN A SANDBOX (cutbox-door.mjs). By AI agents, Wed Nov 11 2026. No macro, syntax, notation, axiom, sorry.
-/
import Derived.Test.YtfmnjkpddljdcaaGreatDoorRows
import GoSem.ClaimSeven
namespace Go.Proofs.YtfmnjkpddljdcaaGreatDoor
namespace Rows

/-- THE TIED CARD OF 'laws.FnRefuted'. -/
def fnRefutedCard : Claim7 := { stood := { row := fnRefutedRow, standIns := [], harness := (true, "5d0d8a8adef5f44e858dd73fd97f9752932c5787f751f7d0dcacd4a25a005e52"), looks := true }, kinds := [], alts := [], laidByText := true, laidKinds := [.data, .data, .data, .data, .sentinel, .sentinel, .pinned], laidTests := true, laidLooks := .later }
def FnRefutedCardSaid : Prop := Claim7.holds Tryz.pinned (.plain (OpenSpec.ofChange fnRefutedSpec)) fnRefutedCard

/-- THE SECOND FORM's CARD OF 'laws.FnRefuted'. -/
def fnRefutedUptoCard : Claim7 := { stood := { row := fnRefutedUptoRow, standIns := [], harness := (true, "5d0d8a8adef5f44e858dd73fd97f9752932c5787f751f7d0dcacd4a25a005e52"), looks := true }, kinds := [], alts := [], laidByText := true, laidKinds := [.data, .data, .data, .data, .sentinel, .sentinel, .pinned], laidTests := true, laidLooks := .later }
def FnRefutedUptoCardSaid : Prop := Claim7.holds Tryz.pinned (.plain (OpenSpec.upto fnRefutedSpec)) fnRefutedUptoCard
end Rows
end Go.Proofs.YtfmnjkpddljdcaaGreatDoor
