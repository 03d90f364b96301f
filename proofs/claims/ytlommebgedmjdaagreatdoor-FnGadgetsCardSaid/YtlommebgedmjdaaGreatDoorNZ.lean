import Derived.Test.YtlommebgedmjdaaGreatDoorNG
import Derived.Test.YtlommebgedmjdaaGreatDoorNC
namespace Go.Proofs.YtlommebgedmjdaaGreatDoor
set_option linter.unusedVariables false
set_option linter.unusedSimpArgs false
open Go.RowKit
section
variable {M N:Nat→Prop} {w:World} {α:Type} {sz:Nat} {R:ER α} {v p:Value} {l:List α} {y:α}
end
section
variable {X:List Nat} {N M:Nat→Prop} {w0 w:World} {L:List As} {α:Type} {sz:Nat} {R:ER α} [hR:FrC sz R] {E:TypeId} {v:Value} {l:List α}
end
theorem Sm.symm {N:Nat→Prop} {w w':World} (h:Sm N w w'):Sm N w' w:=⟨fun c hc=>(h.blk c hc).symm⟩
section
variable {P:Program} {a:Act} {w w1:World} {n:Nat} {L:List (Nat×Value)} {d:Option Tmp} {ty:TypeId} {pos:String} {af:Array Edge} {g:Option (Nat×Bool)} {M N:Nat→Prop}
end
section
variable {P:Program} {ops:Array Oper} {Q:Exit→Act→World→Prop} {a:Act} {w w0 w1:World} {n:Nat} {L:List (Nat×Value)} {rest:List Oper} {d:Nat} {ty:TypeId} {pos:String} {af:Array Edge} {g:Option (Nat×Bool)} {M N:Nat→Prop} {C:World→Prop} {K:Act→Prop}
end
end Go.Proofs.YtlommebgedmjdaaGreatDoor
namespace Go.Proofs.YtlommebgedmjdaaGreatDoor
set_option linter.unusedVariables false
set_option linter.unusedSimpArgs false
open Go.RowKit
section
variable {P:Program} {ops:Array Oper} {Q:Exit→Act→World→Prop} {a:Act} {w w0 w1:World} {n:Nat} {L:List (Nat×Value)} {rest:List Oper} {d:Nat} {ty:TypeId} {pos:String} {af:Array Edge} {g:Option (Nat×Bool)} {M N N1:Nat→Prop} {X:List Nat} {D:List As}
end
end Go.Proofs.YtlommebgedmjdaaGreatDoor
