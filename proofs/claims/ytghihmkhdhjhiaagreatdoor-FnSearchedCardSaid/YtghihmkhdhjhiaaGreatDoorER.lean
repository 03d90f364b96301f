import Derived.Test.YtghihmkhdhjhiaaGreatDoorGL
import Derived.Test.YtghihmkhdhjhiaaGreatDoorDE
import Derived.Stop.LaidErr
namespace Go.Proofs.YtghihmkhdhjhiaaGreatDoor
set_option linter.unusedVariables false
set_option linter.unusedSimpArgs false
open Go.RowKit
set_option maxRecDepth 100000
structure GloE (w:World):Prop extends Glo w where
  sy:∃ tp p,w.var? Tryz.prog "strconv.ErrSyntax" = some #[.iface tp p]
  ra:∃ tp p,w.var? Tryz.prog "strconv.ErrRange" = some #[.iface tp p]
theorem xDn {P:Program} {w w':World} {n:String} {cs:Array Value} (h:w.var? P n=some cs) (l:Below w.heap.size w w'):w'.var? P n=some cs:=by
  unfold World.var? at h ⊢
  cases hg:P.globalNamed n with
  | none=>rw[hg] at h;cases h
  | some g=>
    rw[hg] at h;simp only[Option.bind_some] at h ⊢
    have hl:g<w.heap.size:=by
      rcases Nat.lt_or_ge g w.heap.size with h1 | h1
      · exact h1
      · rw[Array.getElem?_eq_none h1] at h
        simp at h
    rw[l.block g hl];exact h
theorem GloE.go {w w':World} (h:GloE w) (l:Below w.heap.size w w'):GloE w':=by
  obtain⟨tp,p,h1⟩:=h.sy;obtain⟨tq,q,h2⟩:=h.ra;exact⟨h.toGlo.go l,⟨tp,p,xDn h1 l⟩,⟨tq,q,xDn h2 l⟩⟩
def xJl (v:Value) (b:Bool):Prop:=if b then v= .nilIface else ∃ t p,v= .iface t p
section
variable {P:Program} {ops:Array Oper} {Q:Exit→Act→World→Prop} {a:Act} {w:World} {n:Nat} {L:List (Nat×Value)} {rest:List Oper} {d:Nat} {dd:Option Tmp} {ty:TypeId} {pos:String} {af:Array Edge} {g:Option (Nat×Bool)}
theorem xLq {x:Operand} {t t':TypeId} {v:Value} {b:Bool} (hi:P.underlying t=some (.interface (P.methodsAt t))) (F:Sk a n L) (e:ev L x=some v) (h:xJl v b) {w':World} :
    (execOp a.eval ⟨dd,.binOp .neq t x (.const .nilIface) t',ty,pos,af,g⟩).run P w'= .ok (.value (.bool (!b))) w':=by
  have e':a.eval (.const .nilIface)= .nilIface:=rfl
  unfold xJl at h
  cases b with
  | true=>
    simp only[if_true] at h;subst h
    unfold execOp
    simp only[F.ev e,e']
    simp [eqGuard,binOp,run_equal_nil_nil _ _ hi]
  | false=>
    simp only[Bool.false_eq_true,if_false] at h;obtain⟨tt,p,rfl⟩:=h
    unfold execOp
    simp only[F.ev e,e']
    simp [eqGuard,binOp,run_equal_held_nil _ _ _ _ hi]
theorem xLm {x:Operand} {t t':TypeId} {v:Value} {b:Bool} (hi:P.underlying t=some (.interface (P.methodsAt t))) (F:Sk a n L) (hc:kV ops n L g d=true) (e:ev L x=some v) (h:xJl v b)
    (k:∀ a',Sk a' n ((d,.bool (!b))::L)→wpList P ops Q rest a' w):wpList P ops Q (⟨some d,.binOp .neq t x (.const .nilIface) t',ty,pos,af,g⟩::rest) a w:=zA F hc (xLq hi F e h) k
end
def bZ (s:ByteArray) (b z:Int):Option (Int×Bool):=
  if b=10∧z=64∧s.size≤281474976710656∧xO (Lib.intSat 64 s.data.toList) then some (match Lib.parseIntB 64 s.data.toList with | .ok v=>(v,true) | .range=>(Lib.intSat 64 s.data.toList,false) | _=>(0,false)) else none
theorem rE {x0:ByteArray} {x1 x2:Int} (r:Int×Bool) (hR:bZ x0 x1 x2=some r) (w0:World) (hG:GloE w0) (hx0:x0.size≤maxLen) (hx1:xO x1) (hx2:xO x2):Calls Tryz.prog 105 #[.string x0,.int .i64 x1,.int .i64 x2] w0 (xDh (fun v w'=>∃ v1':Value,v= .tuple #[.int .i64 r.1,v1']∧xO r.1∧xJl v1' r.2) w0):=by
  unfold bZ at hR
  split at hR
  · rename_i h
    obtain⟨rfl,rfl,hs,hi⟩:=h;obtain rfl:=Option.some.inj hR
    cases hp:Lib.parseIntB 64 x0.data.toList
    case ok v=>
      have hb:=Lib.parseIntB_bounds hp;refine(Any.strconv_ParseInt_10_at64_ok xOp x0 (by omega) v hp w0).mono (fun e w' h=>?_);obtain⟨he,hw⟩:=h;refine⟨_,he,?_,_,rfl,⟨?_,?_⟩,rfl⟩
      · rcases hw with rfl | ⟨t,rfl⟩
        · exact Below.refl _ _
        · exact Lib.bytesWorld_below _ _ _
      · have:=hb.1
        simp at this ⊢
        omega
      · have:=hb.2
        simp at this ⊢
        omega
    case range=>
      obtain⟨tp,p,hv⟩:=hG.ra;refine(Any.strconv_ParseInt_10_at64_range_var xOp x0 hs hp tp p w0 hv).mono (fun e w' h=>?_);obtain⟨N,he,_,_,hb⟩:=h;exact⟨_,he,hb,_,rfl,hi,_,_,rfl⟩
    · obtain⟨tp,p,hv⟩:=hG.sy
      refine(Any.strconv_ParseInt_10_at64_syntax_var xOp x0 hs hp tp p w0 hv).mono (fun e w' h=>?_);obtain⟨N,he,_,_,hb⟩:=h;exact⟨_,he,hb,_,rfl,(show xO 0 by decide),_,_,rfl⟩
  · cases hR
end Go.Proofs.YtghihmkhdhjhiaaGreatDoor
