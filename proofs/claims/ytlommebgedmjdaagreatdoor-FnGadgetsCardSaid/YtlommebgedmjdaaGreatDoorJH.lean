import Derived.Test.YtlommebgedmjdaaGreatDoorDS
import Derived.Test.YtlommebgedmjdaaGreatDoorJC
import Derived.Test.YtlommebgedmjdaaGreatDoorGB
import Derived.Test.YtlommebgedmjdaaGreatDoorDR
namespace Go.Proofs.YtlommebgedmjdaaGreatDoor
set_option linter.unusedVariables false
open Go.RowKit
section
variable {ops:Array Oper} {Q:Exit→Act→World→Prop} {n:Nat} {X:List Nat} {N:Nat→Prop} {w0:World} {L:List (Nat×Value)} {D:List As} {ρ:Type} {tt:Option ρ} {CC:ρ→Prop} {rest:List Oper} {d:Nat} {ty:TypeId} {pos:String} {af:Array Edge} {g:Option (Nat×Bool)}
theorem oCc {xs:List Operand} {at':Array TypeId} {v:Value} {l r:List Int} (hr:zM l=some r) (kt:J n X N w0 ((d,.tuple #[])::L) (rl 1 xG 2 v r::D) tt CC (wpList Tryz.prog ops Q rest)) (hc:qH ops n L g d=true:=by rfl) (e:evs L xs=some [v]:=by rfl) :
    J n X N w0 L (rl 1 xG 2 v l::D) tt CC (wpList Tryz.prog ops Q (⟨some d,.call ⟨.value (.func 162),xs.toArray,at'⟩,ty,pos,af,g⟩::rest)):=⟨fun a w F H xq h1 h2=>oAv F hc Tryz.call162 e H hr (fun a' w' H' F'=>kt.h a' w' F' H' xq h1 h2)⟩
theorem xTq {xs:List Operand} {at':Array TypeId} {v:Value} {l r:List Int} (hr:vP l=some r) (kt:∀ v',J n X N w0 ((d,v')::L) (rl 1 xG 2 v' r::D) tt CC (wpList Tryz.prog ops Q rest)) (hc:qH ops n L g d=true:=by rfl) (e:evs L xs=some [v]:=by rfl) :
    J n X N w0 L (rl 1 xG 2 v l::D) tt CC (wpList Tryz.prog ops Q (⟨some d,.call ⟨.value (.func 163),xs.toArray,at'⟩,ty,pos,af,g⟩::rest)):=⟨fun a w F H xq h1 h2=>xUp F hc Tryz.call163 e H hr (fun a' w' v' H' F'=>(kt v').h a' w' F' H' xq h1 h2)⟩
end
end Go.Proofs.YtlommebgedmjdaaGreatDoor
namespace Go.Proofs.YtlommebgedmjdaaGreatDoor
set_option linter.unusedVariables false
open Go.RowKit
theorem wH {B:Nat→Prop} {x0 x1:Int} (r:ByteArray) (hR:cB x0 x1=some r) (w0:World) (hN:∀ c,B c→c<w0.heap.size) (hG:Glo w0) (hx0:xH x0) (hx1:xH x1):Calls Tryz.prog 145 #[.int .i64 x0,.int .i64 x1] w0 (Gt B w0 [] (.fa (r.size≤maxLen) <| .st (.string r) fun D=>D)):=
  (wN r hR w0 hN hG hx0 hx1).mono fun e w' ⟨v,h1,h2,h3,h4⟩=>⟨h4,h1.trans (congrArg _ h2),h3,fun _=>rfl⟩
theorem xFx {B:Nat→Prop} {x0:List ByteArray} {x1:ByteArray} (r:ByteArray) (hR:fQ x0 x1=some r) {v0:Value} (w0:World) (hN:∀ c,B c→c<w0.heap.size) (A0:Bo B w0 (Sl 1 rV) v0 x0) (hx1:x1.size≤maxLen):Calls Tryz.prog 79 #[v0,.string x1] w0 (Gt B w0 [] (.fa (r.size≤maxLen) <| .st (.string r) fun D=>D)):=
  (xEv r hR w0 hN A0 hx1).mono fun e w' ⟨v,h1,h2,h3,h4⟩=>⟨h4,h1.trans (congrArg _ h2),h3,fun _=>rfl⟩
theorem yN {B:Nat→Prop} {x0:ByteArray} {x1 x2:Int} (r:Int×Bool) (hR:bH x0 x1 x2=some r) (w0:World) (hN:∀ c,B c→c<w0.heap.size) (hG:GloE w0) (hx0:x0.size≤maxLen) (hx1:xH x1) (hx2:xH x2):Calls Tryz.prog 136 #[.string x0,.int .i64 x1,.int .i64 x2] w0 (Gt B w0 [] (.v fun v1'=>.fa (xH r.1) <| .fa (xNk v1' r.2) <| .st (.tuple #[.int .i64 r.1,v1']) fun D=>D)):=
  (yH r hR w0 hN hG hx0 hx1 hx2).mono fun e w' ⟨v,h1,v1,h2,h3,h4,h5⟩=>⟨v1,h4,h5,h1.trans (congrArg _ h2),h3,fun _=>rfl⟩
theorem tT {B:Nat→Prop} {x0 x1:ByteArray} (r:List ByteArray) (hR:cX x0 x1=some r) (w0:World) (hN:∀ c,B c→c<w0.heap.size) (hG:Glo w0) (hx0:x0.size≤maxLen) (hx1:x1.size≤maxLen):Calls Tryz.prog 32 #[.string x0,.string x1] w0 (Gt B w0 [] (.v fun v1'=>.st v1' fun D=>rl 1 rV 9 v1' r::D)):=
  (xDr r hR w0 hN hG hx0 hx1).mono fun e w' ⟨v,h1,v1,h2,h3⟩=>⟨v1,h1.trans (congrArg _ h2),h3,fun _=>rfl⟩
section
variable {ops:Array Oper} {Q:Exit→Act→World→Prop} {n:Nat} {X:List Nat} {N:Nat→Prop} {w0:World} {L:List (Nat×Value)} {D:List As} {ρ:Type} {tt:Option ρ} {CC:ρ→Prop} {rest:List Oper} {d:Nat} {ty:TypeId} {pos:String} {af:Array Edge} {g:Option (Nat×Bool)}
end
section
variable {P:Program} {ops:Array Oper} {Q:Exit→Act→World→Prop} {n:Nat} {X:List Nat} {N:Nat→Prop} {w0:World} {L:List (Nat×Value)} {D:List As} {ρ:Type} {tt:Option ρ} {CC:ρ→Prop} {rest:List Oper} {d:Nat} {ty:TypeId} {pos:String} {af:Array Edge} {g:Option (Nat×Bool)}
theorem xWn {x:Operand} {t t':TypeId} {v:Value} {b:Bool} (h:xNk v b) (kt:J n X N w0 ((d,.bool (!b))::L) D tt CC (wpList P ops Q rest)) (hi:P.underlying t=some (.interface (P.methodsAt t)):=by kernel_rfl) (hc:qH ops n L g d=true:=by rfl) (e:ev L x=some v:=by rfl) :
    J n X N w0 L D tt CC (wpList P ops Q (⟨some d,.binOp .neq t x (.const .nilIface) t',ty,pos,af,g⟩::rest)):=⟨fun a w F H xq h1 h2=>xWm hi F hc e h (fun a' F'=>kt.h a' w F' H xq h1 h2)⟩
end
end Go.Proofs.YtlommebgedmjdaaGreatDoor
namespace Go.Proofs.YtlommebgedmjdaaGreatDoor
set_option linter.unusedVariables false
open Go.RowKit
theorem xHf {B:Nat→Prop} {x0 x1:ByteArray} (r:ByteArray×ByteArray×Bool) (hR:jO x0 x1=some r) (w0:World) (hN:∀ c,B c→c<w0.heap.size) (hG:Glo w0) (hx0:x0.size≤maxLen) (hx1:x1.size≤maxLen):Calls Tryz.prog 137 #[.string x0,.string x1] w0 (Gt B w0 [] (.fa (r.1.size≤maxLen) <| .fa (r.2.1.size≤maxLen) <| .st (.tuple #[.string r.1,.string r.2.1,.bool r.2.2]) fun D=>D)):=
  (xHi r hR w0 hN hG hx0 hx1).mono fun e w' ⟨v,h1,h2,h3,h4,h5⟩=>⟨h4,h5,h1.trans (congrArg _ h2),h3,fun _=>rfl⟩
theorem mW {B:Nat→Prop} {x0:List Int} {x1:Int} (r:List Int) (hR:vZ x0 x1=some r) {v0:Value} (w0:World) (hN:∀ c,B c→c<w0.heap.size) (A0:Bo B w0 (Sl 1 xG) v0 x0) (hx1:xH x1) :
    Calls Tryz.prog 63 #[v0,.int .i64 x1] w0 (Gt B w0 [] (.v fun v1'=>.st v1' fun D=>rl 1 xG 2 v1' r::D)):=
  (mR r hR w0 hN A0 hx1).mono fun e w' ⟨v,h1,v1,h2,h3⟩=>⟨v1,h1.trans (congrArg _ h2),h3,fun _=>rfl⟩
end Go.Proofs.YtlommebgedmjdaaGreatDoor
