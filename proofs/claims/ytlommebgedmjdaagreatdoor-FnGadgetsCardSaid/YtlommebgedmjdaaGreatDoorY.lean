import Derived.Test.YtlommebgedmjdaaGreatDoorK
import Derived.Test.YtlommebgedmjdaaGreatDoorB
namespace Go.Proofs.YtlommebgedmjdaaGreatDoor
set_option linter.unusedVariables false
set_option linter.unusedSimpArgs false
open Go.RowKit
open Classical in
section
variable {P:Program} {f:FuncId} {args:Array Value} {w:World}
end
section
variable {P:Program} {ops:Array Oper} {Q:Exit→Act→World→Prop} {a:Act} {w:World} {n:Nat} {L:List (Nat×Value)} {rest:List Oper} {d:Nat} {ty:TypeId} {pos:String} {af:Array Edge} {g:Option (Nat×Bool)}
end
end Go.Proofs.YtlommebgedmjdaaGreatDoor
