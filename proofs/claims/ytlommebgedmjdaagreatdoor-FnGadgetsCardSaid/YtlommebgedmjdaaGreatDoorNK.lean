import Derived.Test.YtlommebgedmjdaaGreatDoorNG
namespace Go.Proofs.YtlommebgedmjdaaGreatDoor
set_option linter.unusedVariables false
set_option linter.unusedSimpArgs false
open Go.RowKit
def RS {α:Type} (sz:Nat) (R:ER α):ER (Value ⊕ List α):=fun w f x bs=>match x with
  | .inl u=>f 0=some u∧u.oneCell'=true∧bs=[]
  | .inr l=>fG sz R w f l bs
instance {α:Type} {sz:Nat} {R:ER α} [hR:FrC sz R]:FrC 1 (RS sz R):=⟨fun w w' f g x bs h hs hg=>by
    cases x with
    | inl u=>exact⟨(hg 0 (by omega)).trans h.1,h.2⟩
    | inr l=>exact(inferInstance:FrC 1 (fG sz R)).fr _ _ _ _ _ _ h hs hg,fun w f x bs h j hj=>by
    cases x with
    | inl u=>
      obtain rfl:j=0:=by omega
      exact⟨u,h.1,h.2.1⟩
    | inr l=>exact(inferInstance:FrC 1 (fG sz R)).tot _ _ _ _ h j hj⟩
section
variable {X:List Nat} {N:Nat→Prop} {w0 w:World} {D:List As} {α:Type} {sz:Nat} {R:ER α} [hR:FrC sz R] {E:TypeId} {v:Value}
end
section
variable {P:Program} {ops:Array Oper} {Q:Exit→Act→World→Prop} {a:Act} {w w0 w1:World} {n:Nat} {L:List (Nat×Value)} {rest:List Oper} {d:Nat} {ty:TypeId} {pos:String} {af:Array Edge} {g:Option (Nat×Bool)} {M N N1:Nat→Prop} {X:List Nat} {D:List As}
end
end Go.Proofs.YtlommebgedmjdaaGreatDoor
