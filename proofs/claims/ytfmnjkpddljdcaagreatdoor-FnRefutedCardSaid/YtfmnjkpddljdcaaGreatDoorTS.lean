import Derived.Test.YtfmnjkpddljdcaaGreatDoorQ
import Derived.Laws.BytesString
namespace Go.Proofs.YtfmnjkpddljdcaaGreatDoor
set_option linter.unusedVariables false
set_option linter.unusedSimpArgs false
open Go.RowKit
def kL (l:List UInt8):ByteArray:=⟨l.toArray⟩
def xJn (a b:ByteArray):Option ByteArray:=if a.size+b.size≤9223372036854775807 then some (a++b) else none
theorem xFj {a b c:ByteArray} (h:xJn a b=some c):a.size+b.size≤9223372036854775807∧a++b=c:=by
  unfold xJn at h
  split at h
  · exact⟨by assumption,Option.some.inj h⟩
  · cases h
theorem uO {a b c:ByteArray} (h:xJn a b=some c):c.size≤maxLen:=by
  obtain⟨h1,rfl⟩:=xFj h;rw[ByteArray.size_append]
  unfold maxLen
  omega
def sEq (a b:ByteArray):Bool:=a.toList==b.toList
theorem xQi (c:UInt8):xS (c.toNat:Int):=⟨by omega,by have:=c.toNat_lt;omega⟩
section
variable {P:Program} {ops:Array Oper} {Q:Exit→Act→World→Prop} {a:Act} {w:World} {n:Nat} {L:List (Nat×Value)} {rest:List Oper} {d:Nat} {dd:Option Tmp} {ty:TypeId} {pos:String} {af:Array Edge} {g:Option (Nat×Bool)}
theorem nM {x y:Operand} {t t':TypeId} {i j r:ByteArray} (F:Sk a n L) (e:ev L x=some (.string i)) (e':ev L y=some (.string j)) (h:xJn i j=some r) {w':World} :
    (execOp a.eval ⟨dd,.binOp .add t x y t',ty,pos,af,g⟩).run P w'= .ok (.value (.string r)) w':=by
  obtain⟨h1,rfl⟩:=xFj h
  have h2:¬ (((i.size+j.size:Nat):Int) > IntKind.i64.max):=by
    have:IntKind.i64.max=9223372036854775807:=by decide
    rw[this]
    omega
  unfold execOp
  simp only[F.ev e,F.ev e'];simp only[binOp,Op.stringOp,if_neg h2]
  simp [eqGuard]
theorem xVd {x y:Operand} {t t':TypeId} {i j:ByteArray} (F:Sk a n L) (e:ev L x=some (.string i)) (e':ev L y=some (.string j)) {w':World} :
    (execOp a.eval ⟨dd,.binOp .eql t x y t',ty,pos,af,g⟩).run P w'= .ok (.value (.bool (sEq i j))) w':=by
  unfold execOp
  simp only[F.ev e,F.ev e']
  simp [eqGuard,binOp,Op.stringOp,sEq]
theorem xRl {x y:Operand} {t t':TypeId} {i j:ByteArray} (F:Sk a n L) (hc:aV ops n L g d=true) (e:ev L x=some (.string i)) (e':ev L y=some (.string j))
    (k:∀ a',Sk a' n ((d,.bool (sEq i j))::L)→wpList P ops Q rest a' w):wpList P ops Q (⟨some d,.binOp .eql t x y t',ty,pos,af,g⟩::rest) a w:=kJ F hc (xVd F e e') k
theorem xTz {x y:Operand} {t t':TypeId} {i j:ByteArray} (F:Sk a n L) (e:ev L x=some (.string i)) (e':ev L y=some (.string j)) {w':World} :
    (execOp a.eval ⟨dd,.binOp .neq t x y t',ty,pos,af,g⟩).run P w'= .ok (.value (.bool (!sEq i j))) w':=by
  unfold execOp
  simp only[F.ev e,F.ev e']
  simp [eqGuard,binOp,Op.stringOp,sEq]
theorem xPx {x y:Operand} {t t':TypeId} {i j:ByteArray} (F:Sk a n L) (hc:aV ops n L g d=true) (e:ev L x=some (.string i)) (e':ev L y=some (.string j))
    (k:∀ a',Sk a' n ((d,.bool (!sEq i j))::L)→wpList P ops Q rest a' w):wpList P ops Q (⟨some d,.binOp .neq t x y t',ty,pos,af,g⟩::rest) a w:=kJ F hc (xTz F e e') k
theorem xTb {x:Operand} {t t':TypeId} {c:UInt8} {ut:TypeDesc} (hs:P.underlying t=some ut) (ht:P.underlying t'=some (.int .i64)) (F:Sk a n L) (e:ev L x=some (.int .u8 c.toNat)) {w':World} :
    (execOp a.eval ⟨dd,.convert t t' x,ty,pos,af,g⟩).run P w'= .ok (.value (.int .i64 c.toNat)) w':=by
  have hw:IntKind.i64.wrap (c.toNat:Int)=c.toNat:=IntWalk.i64_in _ (xQi c)
  unfold execOp
  simp [F.ev e,convert,run_underlying hs,run_underlying ht,Conv.intToInt,hw]
theorem xUm {α:Type} (enc:α→Value) (Ok:α→Prop) {R:ER α} (hR:∀ w f x,Ok x→f 0=some (enc x)→R w f x []) (h1c:∀ x,(enc x).oneCell'=true)
    {t e:TypeId} {z:Value} {parts:Array (Nat×Operand)} {m:Nat} {xs:List Operand} {l:List α} (ht:P.underlying t=some (.slice e)) (hsz:∀ w,(sizeOf e).run P w= .ok 1 w) (hz:∀ w,(zeroValue e).run P w= .ok z w) (hzs:z.cells.size=1)
    (F:Sk a n L) (hc:aV ops n L g d=true) (hp:parts.toList=(List.range' 0 xs.length).zip xs) (hm:m=l.length) (hm1:l.length≤1000) (hm0:0<l.length)
    (hx:evs L xs=some (l.map enc)) (hI:∀ y∈l,Ok y)
    (k:∀ a' w' v' rb,Row 1 R e w.heap.size w' v' l rb []→Below w.heap.size w w'→Sk a' n ((d,v')::L)→wpList P ops Q rest a' w') :
    wpList P ops Q (⟨some d,.buildSlice t m parts,ty,pos,af,g⟩::rest) a w:=by
  subst hm;have hxs:=F.evs hx
  have hlen:xs.length=l.length:=by have:=congrArg List.length hxs;simpa using this
  obtain⟨cs',e1,e2,e3⟩:=uS (l.map enc) 0 ((Array.range l.length).map (z.cells[· % z.cells.size]!)) (fun v hv=>by obtain⟨x,_,rfl⟩:=List.mem_map.1 hv;exact h1c x) (by simp)
  have ecs:cs'=(l.map enc).toArray:=by
    apply Array.ext_getElem?
    intro i;rw[e3 i]
    by_cases h:i<l.length
    · rw[if_pos (by simp;exact h)];simp
    · rw[if_neg (by simp;omega),Array.getElem?_eq_none (by simp;omega),Array.getElem?_eq_none (by simp;omega)]
  have hlb:Below w.heap.size w (w.alloc (.cells cs' e)):=(Below.refl _ _).alloc (Nat.le_refl _) _;refine kJ (v:=.slice (some ⟨w.heap.size,0,none⟩) l.length l.length) (w':=w.alloc (.cells cs' e)) F hc ?_ (fun a' F'=>k a' _ _ [w.heap.size] ⟨⟨l.map enc,List.replicate l.length [],⟨by simp,.inr ⟨w.heap.size,l.length,cs',rfl,Nat.le_refl _,heap_alloc_new w _,Nat.le_refl _,by unfold maxLen;omega,by rw[ecs];simp,by rw[ecs,List.take_of_length_le (by simp)]⟩⟩,by simp,by simp,fun i y' bj hy' hbj=>?_⟩,rfl,kD.nil _,Dj.nil _⟩ hlb F')
  · unfold execOp
    have hparts:(parts.map fun(i,x)=>(i,a.eval x)).toList=(List.range' 0 l.length).zip (l.map enc):=by
      rw[Array.toList_map,hp,← hxs,hlen];rw[List.zip_map_right]
      rfl
    have h0:l.length≠0:=by omega
    have h1:¬ (16777216<l.length):=by omega
    rw[List.length_map] at e1
    simp [Instr.buildSlice,run_underlying ht,hsz,hz,h0,h1,newRow]
    have hparts':List.map (fun x:Nat×Operand=>(x.1,a.eval x.2)) parts.toList=(List.range' 0 l.length).zip (l.map enc):=by rw[← hparts,Array.toList_map]
    rw[hparts'];simp only[Nat.mul_one] at e1;rw[e1]
    rfl
  · have hi:i<l.length:=(List.getElem?_eq_some_iff.1 hy').1
    have e5:bj=[]:=List.eq_of_mem_replicate (List.mem_of_getElem? hbj);subst e5;exact hR _ _ _ (hI y' (List.mem_of_getElem? hy')) (by simp [hy'])
theorem xUu:∀ (w:World) (f:Nat→Option Value) (x:ByteArray),x.size≤maxLen→f 0=some (Value.string x)→pZ w f x []:=fun _ _ _ h h0=>⟨h0,h,rfl⟩
end
end Go.Proofs.YtfmnjkpddljdcaaGreatDoor
