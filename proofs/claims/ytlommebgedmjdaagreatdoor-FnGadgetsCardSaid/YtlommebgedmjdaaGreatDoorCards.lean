/-
  DERIVED. GIVEN WITH THE SEED: THE CARDS: each row of YtlommebgedmjdaaGreatDoorRows.lean that lists a variable, with what it lists TIED to the program's text (the seventh form; the later family's looks); each row that meets fmt, with fmt's text TOLD by the authors' own Lean function (tested against real Go, not proved from fmt's source: count such statements apart). THE CARD IS WHAT COUNTS. Prove the row's statement (the work); the ties are given (YtlommebgedmjdaaGreatDoorTie.lean); close each card by the builder's one call (the guide's Derived/Test/ToyasCard.lean, 'card_holds'). Laid BY PROGRAM, IN A SANDBOX (cutbox-door.mjs). By AI agents, Wed Nov 11 2026. No macro, syntax, notation, axiom, sorry.
-/
import Derived.Test.YtlommebgedmjdaaGreatDoorRows
import GoSem.ClaimSeven
namespace Go.Proofs.YtlommebgedmjdaaGreatDoor
namespace Rows

/-- THE TIED CARD OF 'laws.FnGadgets'. -/
def fnGadgetsCard : Claim7 := { stood := { row := fnGadgetsRow, standIns := [], harness := (true, "0361796fa4b784fffcb46ac7a3aaa357f1716e0d7361a2a6ba0d698c80f51948"), looks := true }, kinds := [], alts := [], laidByText := true, laidKinds := [.data, .data, .data, .data, .sentinel, .sentinel, .pinned], laidTests := true, laidLooks := .later }
def FnGadgetsCardSaid : Prop := Claim7.holds Tryz.pinned (.plain (OpenSpec.ofChange fnGadgetsSpec)) fnGadgetsCard

/-- THE SECOND FORM's CARD OF 'laws.FnGadgets'. -/
def fnGadgetsUptoCard : Claim7 := { stood := { row := fnGadgetsUptoRow, standIns := [], harness := (true, "0361796fa4b784fffcb46ac7a3aaa357f1716e0d7361a2a6ba0d698c80f51948"), looks := true }, kinds := [], alts := [], laidByText := true, laidKinds := [.data, .data, .data, .data, .sentinel, .sentinel, .pinned], laidTests := true, laidLooks := .later }
def FnGadgetsUptoCardSaid : Prop := Claim7.holds Tryz.pinned (.plain (OpenSpec.upto fnGadgetsSpec)) fnGadgetsUptoCard
end Rows
end Go.Proofs.YtlommebgedmjdaaGreatDoor
