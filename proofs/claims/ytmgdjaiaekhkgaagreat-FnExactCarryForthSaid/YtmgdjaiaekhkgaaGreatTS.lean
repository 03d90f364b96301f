/-
  Strings and bytes in the printed walks: one lemma an operation. No program.
-/
import Derived.Test.YtmgdjaiaekhkgaaGreatQ
import Derived.Laws.BytesString
namespace Go.Proofs.YtmgdjaiaekhkgaaGreat
set_option linter.unusedVariables false
set_option linter.unusedSimpArgs false
open Go.RowKit

section
variable {P : Program} {ops : Array Oper} {Q : Exit → Act → World → Prop} {a : Act} {w : World} {n : Nat} {L : List (Nat × Value)} {rest : List Oper} {d : Nat} {dd : Option Tmp} {ty : TypeId} {pos : String} {af : Array Edge} {g : Option (Nat × Bool)}
/-! ### Bytes -/
theorem El.u8 {c : UInt8} : El 1 RByte w (.int .u8 c.toNat) c [] := ⟨rfl, ⟨rfl, rfl⟩, by simp [Value.cells, Value.oneCell'], xX.nil w⟩
end
end Go.Proofs.YtmgdjaiaekhkgaaGreat
