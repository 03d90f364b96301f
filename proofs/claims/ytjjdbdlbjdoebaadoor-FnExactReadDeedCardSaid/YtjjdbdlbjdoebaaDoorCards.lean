/-
  DERIVED. GIVEN WITH THE SEED: THE CARDS: each row of YtjjdbdlbjdoebaaDoorRows.lean that lists a variable, with what it lists TIED to the program's text (the seventh form; the later family's looks); each row that meets fmt, with fmt's text TOLD by the authors' own Lean function (tested against real Go, not proved from fmt's source: count such statements apart). THE CARD IS WHAT COUNTS. Prove the row's statement (the work); the ties are given (YtjjdbdlbjdoebaaDoorTie.lean); close each card by the builder's one call (the guide's Derived/Test/ToyasCard.lean, 'card_holds'). Laid BY PROGRAM, IN A SANDBOX (cutbox-door.mjs). By AI agents, Wed Nov 11 2026. No macro, syntax, notation, axiom, sorry.
-/
import Derived.Test.YtjjdbdlbjdoebaaDoorRows
import GoSem.ClaimSeven
namespace Go.Proofs.YtjjdbdlbjdoebaaDoor
namespace Rows

/-- THE TIED CARD OF 'laws.FnExactLineText'. -/
def fnExactLineTextCard : Claim7 := { stood := { row := fnExactLineTextRow, standIns := [], harness := (true, "61548f62f8bb4edc89a8024d197c1683b4f294cce198c3fd892b0facb79e265a"), looks := true }, kinds := [], alts := [], laidByText := true, laidKinds := [.data, .data, .data], laidTests := true, laidLooks := .later }
def FnExactLineTextCardSaid : Prop := Claim7.holds Tryd.pinned (.plain (OpenSpec.ofChange fnExactLineTextSpec)) fnExactLineTextCard

/-- THE TIED CARD OF 'laws.FnExactRefutationText'. -/
def fnExactRefutationTextCard : Claim7 := { stood := { row := fnExactRefutationTextRow, standIns := [], harness := (true, "61548f62f8bb4edc89a8024d197c1683b4f294cce198c3fd892b0facb79e265a"), looks := true }, kinds := [], alts := [], laidByText := true, laidKinds := [.data, .data, .data], laidTests := true, laidLooks := .later }
def FnExactRefutationTextCardSaid : Prop := Claim7.holds Tryd.pinned (.plain (OpenSpec.ofChange fnExactRefutationTextSpec)) fnExactRefutationTextCard

/-- THE TIED CARD OF 'laws.FnExactDeedText'. -/
def fnExactDeedTextCard : Claim7 := { stood := { row := fnExactDeedTextRow, standIns := [], harness := (true, "61548f62f8bb4edc89a8024d197c1683b4f294cce198c3fd892b0facb79e265a"), looks := true }, kinds := [], alts := [], laidByText := true, laidKinds := [.data, .data, .data, .data, .pinned], laidTests := true, laidLooks := .later }
def FnExactDeedTextCardSaid : Prop := Claim7.holds Tryd.pinned (.plain (OpenSpec.ofChange fnExactDeedTextSpec)) fnExactDeedTextCard

/-- THE TIED CARD OF 'laws.FnExactGadgetsText'. -/
def fnExactGadgetsTextCard : Claim7 := { stood := { row := fnExactGadgetsTextRow, standIns := [], harness := (true, "61548f62f8bb4edc89a8024d197c1683b4f294cce198c3fd892b0facb79e265a"), looks := true }, kinds := [], alts := [], laidByText := true, laidKinds := [.data, .data, .data], laidTests := true, laidLooks := .later }
def FnExactGadgetsTextCardSaid : Prop := Claim7.holds Tryd.pinned (.plain (OpenSpec.ofChange fnExactGadgetsTextSpec)) fnExactGadgetsTextCard

/-- THE TIED CARD OF 'laws.FnExactReadDeed'. -/
def fnExactReadDeedCard : Claim7 := { stood := { row := fnExactReadDeedRow, standIns := [], harness := (true, "61548f62f8bb4edc89a8024d197c1683b4f294cce198c3fd892b0facb79e265a"), looks := true }, kinds := [], alts := [], laidByText := true, laidKinds := [.data, .data, .data, .data, .sentinel, .sentinel, .pinned], laidTests := true, laidLooks := .later }
def FnExactReadDeedCardSaid : Prop := Claim7.holds Tryd.pinned (.plain (OpenSpec.ofChange fnExactReadDeedSpec)) fnExactReadDeedCard

/-- THE TIED CARD OF 'laws.FnExactReadLine'. -/
def fnExactReadLineCard : Claim7 := { stood := { row := fnExactReadLineRow, standIns := [], harness := (true, "61548f62f8bb4edc89a8024d197c1683b4f294cce198c3fd892b0facb79e265a"), looks := true }, kinds := [], alts := [], laidByText := true, laidKinds := [.data, .data, .data, .data, .sentinel, .sentinel, .pinned], laidTests := true, laidLooks := .later }
def FnExactReadLineCardSaid : Prop := Claim7.holds Tryd.pinned (.plain (OpenSpec.ofChange fnExactReadLineSpec)) fnExactReadLineCard

/-- THE SECOND FORM's CARD OF 'laws.FnExactLineText'. -/
def fnExactLineTextUptoCard : Claim7 := { stood := { row := fnExactLineTextUptoRow, standIns := [], harness := (true, "61548f62f8bb4edc89a8024d197c1683b4f294cce198c3fd892b0facb79e265a"), looks := true }, kinds := [], alts := [], laidByText := true, laidKinds := [.data, .data, .data], laidTests := true, laidLooks := .later }
def FnExactLineTextUptoCardSaid : Prop := Claim7.holds Tryd.pinned (.plain (OpenSpec.upto fnExactLineTextSpec)) fnExactLineTextUptoCard

/-- THE SECOND FORM's CARD OF 'laws.FnExactRefutationText'. -/
def fnExactRefutationTextUptoCard : Claim7 := { stood := { row := fnExactRefutationTextUptoRow, standIns := [], harness := (true, "61548f62f8bb4edc89a8024d197c1683b4f294cce198c3fd892b0facb79e265a"), looks := true }, kinds := [], alts := [], laidByText := true, laidKinds := [.data, .data, .data], laidTests := true, laidLooks := .later }
def FnExactRefutationTextUptoCardSaid : Prop := Claim7.holds Tryd.pinned (.plain (OpenSpec.upto fnExactRefutationTextSpec)) fnExactRefutationTextUptoCard

/-- THE SECOND FORM's CARD OF 'laws.FnExactDeedText'. -/
def fnExactDeedTextUptoCard : Claim7 := { stood := { row := fnExactDeedTextUptoRow, standIns := [], harness := (true, "61548f62f8bb4edc89a8024d197c1683b4f294cce198c3fd892b0facb79e265a"), looks := true }, kinds := [], alts := [], laidByText := true, laidKinds := [.data, .data, .data, .data, .pinned], laidTests := true, laidLooks := .later }
def FnExactDeedTextUptoCardSaid : Prop := Claim7.holds Tryd.pinned (.plain (OpenSpec.upto fnExactDeedTextSpec)) fnExactDeedTextUptoCard

/-- THE SECOND FORM's CARD OF 'laws.FnExactGadgetsText'. -/
def fnExactGadgetsTextUptoCard : Claim7 := { stood := { row := fnExactGadgetsTextUptoRow, standIns := [], harness := (true, "61548f62f8bb4edc89a8024d197c1683b4f294cce198c3fd892b0facb79e265a"), looks := true }, kinds := [], alts := [], laidByText := true, laidKinds := [.data, .data, .data], laidTests := true, laidLooks := .later }
def FnExactGadgetsTextUptoCardSaid : Prop := Claim7.holds Tryd.pinned (.plain (OpenSpec.upto fnExactGadgetsTextSpec)) fnExactGadgetsTextUptoCard

/-- THE SECOND FORM's CARD OF 'laws.FnExactReadDeed'. -/
def fnExactReadDeedUptoCard : Claim7 := { stood := { row := fnExactReadDeedUptoRow, standIns := [], harness := (true, "61548f62f8bb4edc89a8024d197c1683b4f294cce198c3fd892b0facb79e265a"), looks := true }, kinds := [], alts := [], laidByText := true, laidKinds := [.data, .data, .data, .data, .sentinel, .sentinel, .pinned], laidTests := true, laidLooks := .later }
def FnExactReadDeedUptoCardSaid : Prop := Claim7.holds Tryd.pinned (.plain (OpenSpec.upto fnExactReadDeedSpec)) fnExactReadDeedUptoCard

/-- THE SECOND FORM's CARD OF 'laws.FnExactReadLine'. -/
def fnExactReadLineUptoCard : Claim7 := { stood := { row := fnExactReadLineUptoRow, standIns := [], harness := (true, "61548f62f8bb4edc89a8024d197c1683b4f294cce198c3fd892b0facb79e265a"), looks := true }, kinds := [], alts := [], laidByText := true, laidKinds := [.data, .data, .data, .data, .sentinel, .sentinel, .pinned], laidTests := true, laidLooks := .later }
def FnExactReadLineUptoCardSaid : Prop := Claim7.holds Tryd.pinned (.plain (OpenSpec.upto fnExactReadLineSpec)) fnExactReadLineUptoCard
end Rows
end Go.Proofs.YtjjdbdlbjdoebaaDoor
