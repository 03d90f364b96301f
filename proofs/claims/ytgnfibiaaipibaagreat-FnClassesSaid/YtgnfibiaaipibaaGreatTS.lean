import Derived.Test.YtgnfibiaaipibaaGreatQ
import Derived.Laws.BytesString
namespace Go.Proofs.YtgnfibiaaipibaaGreat
set_option linter.unusedVariables false
set_option linter.unusedSimpArgs false
open Go.RowKit
def bstr (l:List UInt8):ByteArray:=⟨l.toArray⟩
def u8w (n:Int):UInt8:=UInt8.ofNat (n % 256).toNat
theorem u8w_val (n:Int):IntKind.u8.wrap n=((u8w n).toNat:Int):=by
  unfold IntKind.wrap u8w
  simp only[show IntKind.u8.bits=8 from rfl,show IntKind.u8.signed=false from rfl];have h1:=Int.emod_nonneg n (show(256:Int)≠0 by decide);have h2:=Int.emod_lt_of_pos n (show(0:Int)<256 by decide)
  have h3:(UInt8.ofNat (n % 256).toNat).toNat=(n % 256).toNat:=by
    simp
    omega
  rw[h3]
  simp
  omega
theorem u8_i64 (c:UInt8):xZ (c.toNat:Int):=⟨by omega,by have:=c.toNat_lt;omega⟩
section
variable {P:Program} {ops:Array Oper} {Q:Exit→Act→World→Prop} {a:Act} {w:World} {n:Nat} {L:List (Nat×Value)} {rest:List Oper} {d:Nat} {dd:Option Tmp} {ty:TypeId} {pos:String} {af:Array Edge} {g:Option (Nat×Bool)}
theorem r_convI {x:Operand} {t t':TypeId} {c:UInt8} {ut:TypeDesc} (hs:P.underlying t=some ut) (ht:P.underlying t'=some (.int .i64)) (F:Sk a n L) (e:ev L x=some (.int .u8 c.toNat)) {w':World} :
    (execOp a.eval ⟨dd,.convert t t' x,ty,pos,af,g⟩).run P w'= .ok (.value (.int .i64 c.toNat)) w':=by
  have hw:IntKind.i64.wrap (c.toNat:Int)=c.toNat:=IntWalk.i64_in _ (u8_i64 c)
  unfold execOp
  simp [F.ev e,convert,run_underlying hs,run_underlying ht,Conv.intToInt,hw]
theorem o_convI {x:Operand} {t t':TypeId} {c:UInt8} {ut:TypeDesc} (hs:P.underlying t=some ut) (ht:P.underlying t'=some (.int .i64)) (F:Sk a n L) (hc:kK ops n L g d=true) (e:ev L x=some (.int .u8 c.toNat))
    (k:∀ a',Sk a' n ((d,.int .i64 c.toNat)::L)→wpList P ops Q rest a' w):wpList P ops Q (⟨some d,.convert t t' x,ty,pos,af,g⟩::rest) a w:=zB F hc (r_convI hs ht F e) k
theorem r_subU {x y:Operand} {t t':TypeId} {i j:UInt8} (F:Sk a n L) (e:ev L x=some (.int .u8 i.toNat)) (e':ev L y=some (.int .u8 j.toNat)) {w':World}:(execOp a.eval ⟨dd,.binOp .sub t x y t',ty,pos,af,g⟩).run P w'= .ok (.value (.int .u8 (u8w ((i.toNat:Int) - (j.toNat:Int))).toNat)) w':=by
  rw[← u8w_val]
  unfold execOp;simp only[F.ev e,F.ev e'];rfl
theorem o_subU {x y:Operand} {t t':TypeId} {i j:UInt8} (F:Sk a n L) (hc:kK ops n L g d=true) (e:ev L x=some (.int .u8 i.toNat)) (e':ev L y=some (.int .u8 j.toNat)) (k:∀ a',Sk a' n ((d,.int .u8 (u8w ((i.toNat:Int) - (j.toNat:Int))).toNat)::L)→wpList P ops Q rest a' w) :
    wpList P ops Q (⟨some d,.binOp .sub t x y t',ty,pos,af,g⟩::rest) a w:=zB F hc (r_subU F e e') k
theorem r_lssU {x y:Operand} {t t':TypeId} {i j:UInt8} (F:Sk a n L) (e:ev L x=some (.int .u8 i.toNat)) (e':ev L y=some (.int .u8 j.toNat)) {w':World}:(execOp a.eval ⟨dd,.binOp .lss t x y t',ty,pos,af,g⟩).run P w'= .ok (.value (.bool (decide ((i.toNat:Int)<(j.toNat:Int))))) w':=by
  unfold execOp;simp only[F.ev e,F.ev e'];rfl
theorem r_gtrU {x y:Operand} {t t':TypeId} {i j:UInt8} (F:Sk a n L) (e:ev L x=some (.int .u8 i.toNat)) (e':ev L y=some (.int .u8 j.toNat)) {w':World}:(execOp a.eval ⟨dd,.binOp .gtr t x y t',ty,pos,af,g⟩).run P w'= .ok (.value (.bool (decide ((j.toNat:Int)<(i.toNat:Int))))) w':=by
  unfold execOp;simp only[F.ev e,F.ev e'];rfl
theorem o_lssU {x y:Operand} {t t':TypeId} {i j:UInt8} (F:Sk a n L) (hc:kK ops n L g d=true) (e:ev L x=some (.int .u8 i.toNat)) (e':ev L y=some (.int .u8 j.toNat)) (k:∀ a',Sk a' n ((d,.bool (decide ((i.toNat:Int)<(j.toNat:Int))))::L)→wpList P ops Q rest a' w):wpList P ops Q (⟨some d,.binOp .lss t x y t',ty,pos,af,g⟩::rest) a w:=zB F hc (r_lssU F e e') k
theorem o_gtrU {x y:Operand} {t t':TypeId} {i j:UInt8} (F:Sk a n L) (hc:kK ops n L g d=true) (e:ev L x=some (.int .u8 i.toNat)) (e':ev L y=some (.int .u8 j.toNat)) (k:∀ a',Sk a' n ((d,.bool (decide ((j.toNat:Int)<(i.toNat:Int))))::L)→wpList P ops Q rest a' w):wpList P ops Q (⟨some d,.binOp .gtr t x y t',ty,pos,af,g⟩::rest) a w:=zB F hc (r_gtrU F e e') k
theorem o_litE {α:Type} (enc:α→Value) (Ok:α→Prop) {R:ER α} (hR:∀ w f x,Ok x→f 0=some (enc x)→R w f x []) (h1c:∀ x,(enc x).oneCell'=true)
    {t e:TypeId} {z:Value} {parts:Array (Nat×Operand)} {m:Nat} {xs:List Operand} {l:List α} (ht:P.underlying t=some (.slice e)) (hsz:∀ w,(sizeOf e).run P w= .ok 1 w) (hz:∀ w,(zeroValue e).run P w= .ok z w) (hzs:z.cells.size=1)
    (F:Sk a n L) (hc:kK ops n L g d=true) (hp:parts.toList=(List.range' 0 xs.length).zip xs) (hm:m=l.length) (hm1:l.length≤1000) (hm0:0<l.length)
    (hx:evs L xs=some (l.map enc)) (hI:∀ y∈l,Ok y)
    (k:∀ a' w' v' rb,Row 1 R e w.heap.size w' v' l rb []→Below w.heap.size w w'→Sk a' n ((d,v')::L)→wpList P ops Q rest a' w') :
    wpList P ops Q (⟨some d,.buildSlice t m parts,ty,pos,af,g⟩::rest) a w:=by
  subst hm;have hxs:=F.evs hx
  have hlen:xs.length=l.length:=by have:=congrArg List.length hxs;simpa using this
  obtain⟨cs',e1,e2,e3⟩:=fill_ones (l.map enc) 0 ((Array.range l.length).map (z.cells[· % z.cells.size]!)) (fun v hv=>by obtain⟨x,_,rfl⟩:=List.mem_map.1 hv;exact h1c x) (by simp)
  have ecs:cs'=(l.map enc).toArray:=by
    apply Array.ext_getElem?
    intro i;rw[e3 i]
    by_cases h:i<l.length
    · rw[if_pos (by simp;exact h)];simp
    · rw[if_neg (by simp;omega),Array.getElem?_eq_none (by simp;omega),Array.getElem?_eq_none (by simp;omega)]
  have hlb:Below w.heap.size w (w.alloc (.cells cs' e)):=(Below.refl _ _).alloc (Nat.le_refl _) _;refine zB (v:=.slice (some ⟨w.heap.size,0,none⟩) l.length l.length) (w':=w.alloc (.cells cs' e)) F hc ?_ (fun a' F'=>k a' _ _ [w.heap.size] ⟨⟨l.map enc,List.replicate l.length [],⟨by simp,.inr ⟨w.heap.size,l.length,cs',rfl,Nat.le_refl _,heap_alloc_new w _,Nat.le_refl _,by unfold maxLen;omega,by rw[ecs];simp,by rw[ecs,List.take_of_length_le (by simp)]⟩⟩,by simp,by simp,fun i y' bj hy' hbj=>?_⟩,rfl,zD.nil _,Dj.nil _⟩ hlb F')
  · unfold execOp
    have hparts:(parts.map fun(i,x)=>(i,a.eval x)).toList=(List.range' 0 l.length).zip (l.map enc):=by
      rw[Array.toList_map,hp,← hxs,hlen];rw[List.zip_map_right]
      rfl
    have h0:l.length≠0:=by omega
    have h1:¬ (16777216<l.length):=by omega
    rw[List.length_map] at e1
    simp [Instr.buildSlice,run_underlying ht,hsz,hz,h0,h1,newRow]
    have hparts':List.map (fun x:Nat×Operand=>(x.1,a.eval x.2)) parts.toList=(List.range' 0 l.length).zip (l.map enc):=by rw[← hparts,Array.toList_map]
    rw[hparts'];simp only[Nat.mul_one] at e1;rw[e1]
    rfl
  · have hi:i<l.length:=(List.getElem?_eq_some_iff.1 hy').1
    have e5:bj=[]:=List.eq_of_mem_replicate (List.mem_of_getElem? hbj);subst e5;exact hR _ _ _ (hI y' (List.mem_of_getElem? hy')) (by simp [hy'])
theorem litStr:∀ (w:World) (f:Nat→Option Value) (x:ByteArray),x.size≤maxLen→f 0=some (Value.string x)→RStr w f x []:=fun _ _ _ h h0=>⟨h0,h,rfl⟩
end
end Go.Proofs.YtgnfibiaaipibaaGreat
