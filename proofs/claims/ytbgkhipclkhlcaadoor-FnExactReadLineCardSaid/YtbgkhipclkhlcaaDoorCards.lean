/-
  DERIVED. GIVEN WITH THE SEED: THE CARDS: each row of YtbgkhipclkhlcaaDoorRows.lean that lists a variable, with what it lists TIED to the program's text (the seventh form; the later family's looks); each row that meets fmt, with fmt's text TOLD by the authors' own Lean function (tested against real Go, not proved from fmt's source: count such statements apart). THE CARD IS WHAT COUNTS. Prove the row's statement (the work); the ties are given (YtbgkhipclkhlcaaDoorTie.lean); close each card by the builder's one call (the guide's Derived/Test/ToyasCard.lean, 'card_holds'). Laid BY PROGRAM, IN A SANDBOX (cutbox-door.mjs). By AI agents, Wed Nov 11 2026. No macro, syntax, notation, axiom, sorry.
-/
import Derived.Test.YtbgkhipclkhlcaaDoorRows
import GoSem.ClaimSeven
namespace Go.Proofs.YtbgkhipclkhlcaaDoor
namespace Rows

/-- THE TIED CARD OF 'laws.FnExactReadLine'. -/
def fnExactReadLineCard : Claim7 := { stood := { row := fnExactReadLineRow, standIns := [], harness := (true, "12a2bd29b1a76fa8267af310dad805a445a9211334488af406145d6786d0c5b2"), looks := true }, kinds := [], alts := [], laidByText := true, laidKinds := [.data, .data, .data, .data, .sentinel, .sentinel, .pinned], laidTests := true, laidLooks := .later }
def FnExactReadLineCardSaid : Prop := Claim7.holds Tryd.pinned (.plain (OpenSpec.ofChange fnExactReadLineSpec)) fnExactReadLineCard

/-- THE SECOND FORM's CARD OF 'laws.FnExactReadLine'. -/
def fnExactReadLineUptoCard : Claim7 := { stood := { row := fnExactReadLineUptoRow, standIns := [], harness := (true, "12a2bd29b1a76fa8267af310dad805a445a9211334488af406145d6786d0c5b2"), looks := true }, kinds := [], alts := [], laidByText := true, laidKinds := [.data, .data, .data, .data, .sentinel, .sentinel, .pinned], laidTests := true, laidLooks := .later }
def FnExactReadLineUptoCardSaid : Prop := Claim7.holds Tryd.pinned (.plain (OpenSpec.upto fnExactReadLineSpec)) fnExactReadLineUptoCard
end Rows
end Go.Proofs.YtbgkhipclkhlcaaDoor
