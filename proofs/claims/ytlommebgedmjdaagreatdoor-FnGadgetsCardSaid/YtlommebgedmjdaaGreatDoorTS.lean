import Derived.Test.YtlommebgedmjdaaGreatDoorQ
import Derived.Laws.BytesString
namespace Go.Proofs.YtlommebgedmjdaaGreatDoor
set_option linter.unusedVariables false
set_option linter.unusedSimpArgs false
open Go.RowKit
def oE (l:List UInt8):ByteArray:=⟨l.toArray⟩
def sK (a b:ByteArray):Option ByteArray:=if a.size+b.size≤9223372036854775807 then some (a++b) else none
theorem xIl {a b c:ByteArray} (h:sK a b=some c):a.size+b.size≤9223372036854775807∧a++b=c:=by
  unfold sK at h
  split at h
  · exact⟨by assumption,Option.some.inj h⟩
  · cases h
theorem xEe {a b c:ByteArray} (h:sK a b=some c):c.size≤maxLen:=by
  obtain⟨h1,rfl⟩:=xIl h;rw[ByteArray.size_append]
  unfold maxLen
  omega
def sEq (a b:ByteArray):Bool:=a.toList==b.toList
def ssl (s:ByteArray) (i j:Int):Option ByteArray:=if 0≤i∧i≤j∧j≤s.size then some (s.extract i.toNat j.toNat) else none
theorem xKv {s r:ByteArray} {i j:Int} (h:ssl s i j=some r):0≤i∧i≤j∧j≤s.size∧s.extract i.toNat j.toNat=r:=by
  unfold ssl at h
  split at h
  · rename_i h1
    exact⟨h1.1,h1.2.1,h1.2.2,Option.some.inj h⟩
  · cases h
theorem xSe {s r:ByteArray} {i j:Int} (h:ssl s i j=some r) (hs:s.size≤maxLen):r.size≤maxLen:=by
  obtain⟨_,_,_,rfl⟩:=xKv h;rw[ByteArray.size_extract]
  omega
def u8w (n:Int):UInt8:=UInt8.ofNat (n % 256).toNat
theorem xWr (n:Int):IntKind.u8.wrap n=((u8w n).toNat:Int):=by
  unfold IntKind.wrap u8w
  simp only[show IntKind.u8.bits=8 from rfl,show IntKind.u8.signed=false from rfl];have h1:=Int.emod_nonneg n (show(256:Int)≠0 by decide);have h2:=Int.emod_lt_of_pos n (show(0:Int)<256 by decide)
  have h3:(UInt8.ofNat (n % 256).toNat).toNat=(n % 256).toNat:=by
    simp
    omega
  rw[h3]
  simp
  omega
theorem xNa (c:UInt8):xH (c.toNat:Int):=⟨by omega,by have:=c.toNat_lt;omega⟩
section
variable {P:Program} {ops:Array Oper} {Q:Exit→Act→World→Prop} {a:Act} {w:World} {n:Nat} {L:List (Nat×Value)} {rest:List Oper} {d:Nat} {dd:Option Tmp} {ty:TypeId} {pos:String} {af:Array Edge} {g:Option (Nat×Bool)}
theorem xYu {x y:Operand} {t t':TypeId} {i j r:ByteArray} (F:Sk a n L) (e:ev L x=some (.string i)) (e':ev L y=some (.string j)) (h:sK i j=some r) {w':World} :
    (execOp a.eval ⟨dd,.binOp .add t x y t',ty,pos,af,g⟩).run P w'= .ok (.value (.string r)) w':=by
  obtain⟨h1,rfl⟩:=xIl h
  have h2:¬ (((i.size+j.size:Nat):Int) > IntKind.i64.max):=by
    have:IntKind.i64.max=9223372036854775807:=by decide
    rw[this]
    omega
  unfold execOp
  simp only[F.ev e,F.ev e'];simp only[binOp,Op.stringOp,if_neg h2]
  simp [eqGuard]
theorem xZa {x y:Operand} {t t':TypeId} {i j r:ByteArray} (F:Sk a n L) (hc:qH ops n L g d=true) (e:ev L x=some (.string i)) (e':ev L y=some (.string j)) (h:sK i j=some r)
    (k:∀ a',Sk a' n ((d,.string r)::L)→wpList P ops Q rest a' w):wpList P ops Q (⟨some d,.binOp .add t x y t',ty,pos,af,g⟩::rest) a w:=qX F hc (xYu F e e' h) k
theorem oAl {x y:Operand} {t t':TypeId} {i j:ByteArray} (F:Sk a n L) (e:ev L x=some (.string i)) (e':ev L y=some (.string j)) {w':World} :
    (execOp a.eval ⟨dd,.binOp .eql t x y t',ty,pos,af,g⟩).run P w'= .ok (.value (.bool (sEq i j))) w':=by
  unfold execOp
  simp only[F.ev e,F.ev e']
  simp [eqGuard,binOp,Op.stringOp,sEq]
theorem xZc {x y:Operand} {t t':TypeId} {i j:ByteArray} (F:Sk a n L) (e:ev L x=some (.string i)) (e':ev L y=some (.string j)) {w':World} :
    (execOp a.eval ⟨dd,.binOp .neq t x y t',ty,pos,af,g⟩).run P w'= .ok (.value (.bool (!sEq i j))) w':=by
  unfold execOp
  simp only[F.ev e,F.ev e']
  simp [eqGuard,binOp,Op.stringOp,sEq]
theorem xPf {t:TypeId} {s r:ByteArray} {i j:Int} (ht:P.underlying t=some .string) (h:ssl s i j=some r) (lo hi:Option Value) (hlo:lo=some (.int .i64 i)∨lo=none∧i=0) (hhi:hi=some (.int .i64 j)∨hi=none∧j=s.size) (w':World) :
    (Instr.sliceAt t (.string s) lo hi none).run P w'= .ok (.string r) w':=by
  obtain⟨h0,h1,h2,rfl⟩:=xKv h;obtain⟨i,rfl⟩:∃ m:Nat,i=m:=⟨i.toNat,by omega⟩;obtain⟨j,rfl⟩:∃ m:Nat,j=m:=⟨j.toNat,by omega⟩
  have h3:i≤j:=by omega
  have h4:j≤s.size:=by omega
  rcases hlo with rfl | ⟨rfl,hi0⟩<;>rcases hhi with rfl | ⟨rfl,hj0⟩
  · simp [Instr.sliceAt,Instr.slice,run_underlying ht,Instr.sliceBounds,Instr.sliceBound,asIntOf,h3,h4]
  · obtain rfl:j=s.size:=by omega
    simp [Instr.sliceAt,Instr.slice,run_underlying ht,Instr.sliceBounds,Instr.sliceBound,asIntOf,h3]
  · obtain rfl:i=0:=by omega
    simp [Instr.sliceAt,Instr.slice,run_underlying ht,Instr.sliceBounds,Instr.sliceBound,asIntOf,h4]
  · obtain rfl:i=0:=by omega
    obtain rfl:j=s.size:=by omega
    simp [Instr.sliceAt,Instr.slice,run_underlying ht,Instr.sliceBounds,Instr.sliceBound,asIntOf]
theorem xYc {x lo:Operand} {t:TypeId} {s r:ByteArray} {i:Int} (ht:P.underlying t=some .string) (F:Sk a n L) (e:ev L x=some (.string s)) (el:ev L lo=some (.int .i64 i)) (h:ssl s i (s.size:Int)=some r) {w':World} :
    (execOp a.eval ⟨dd,.slice t x (some lo) none none,ty,pos,af,g⟩).run P w'= .ok (.value (.string r)) w':=by
  have:=xPf (P:=P) ht h (some (.int .i64 i)) none (.inl rfl) (.inr ⟨rfl,rfl⟩) w'
  unfold execOp
  simp [F.ev e,F.ev el,this]
theorem xYj {x hi:Operand} {t:TypeId} {s r:ByteArray} {j:Int} (ht:P.underlying t=some .string) (F:Sk a n L) (e:ev L x=some (.string s)) (eh:ev L hi=some (.int .i64 j)) (h:ssl s 0 j=some r) {w':World} :
    (execOp a.eval ⟨dd,.slice t x none (some hi) none,ty,pos,af,g⟩).run P w'= .ok (.value (.string r)) w':=by
  have:=xPf (P:=P) ht h none (some (.int .i64 j)) (.inr ⟨rfl,rfl⟩) (.inl rfl) w'
  unfold execOp
  simp [F.ev e,F.ev eh,this]
theorem xYk {x lo:Operand} {t:TypeId} {s r:ByteArray} {i:Int} (ht:P.underlying t=some .string) (F:Sk a n L) (hc:qH ops n L g d=true) (e:ev L x=some (.string s)) (el:ev L lo=some (.int .i64 i)) (h:ssl s i (s.size:Int)=some r)
    (k:∀ a',Sk a' n ((d,.string r)::L)→wpList P ops Q rest a' w):wpList P ops Q (⟨some d,.slice t x (some lo) none none,ty,pos,af,g⟩::rest) a w:=qX F hc (xYc ht F e el h) k
theorem xZo {x hi:Operand} {t:TypeId} {s r:ByteArray} {j:Int} (ht:P.underlying t=some .string) (F:Sk a n L) (hc:qH ops n L g d=true) (e:ev L x=some (.string s)) (eh:ev L hi=some (.int .i64 j)) (h:ssl s 0 j=some r)
    (k:∀ a',Sk a' n ((d,.string r)::L)→wpList P ops Q rest a' w):wpList P ops Q (⟨some d,.slice t x none (some hi) none,ty,pos,af,g⟩::rest) a w:=qX F hc (xYj ht F e eh h) k
theorem xPh {x:Operand} {t t':TypeId} {c:UInt8} {ut:TypeDesc} (hs:P.underlying t=some ut) (ht:P.underlying t'=some (.int .i64)) (F:Sk a n L) (e:ev L x=some (.int .u8 c.toNat)) {w':World} :
    (execOp a.eval ⟨dd,.convert t t' x,ty,pos,af,g⟩).run P w'= .ok (.value (.int .i64 c.toNat)) w':=by
  have hw:IntKind.i64.wrap (c.toNat:Int)=c.toNat:=IntWalk.i64_in _ (xNa c)
  unfold execOp
  simp [F.ev e,convert,run_underlying hs,run_underlying ht,Conv.intToInt,hw]
theorem xVt {x:Operand} {t t':TypeId} {c:UInt8} {ut:TypeDesc} (hs:P.underlying t=some ut) (ht:P.underlying t'=some (.int .i64)) (F:Sk a n L) (hc:qH ops n L g d=true) (e:ev L x=some (.int .u8 c.toNat))
    (k:∀ a',Sk a' n ((d,.int .i64 c.toNat)::L)→wpList P ops Q rest a' w):wpList P ops Q (⟨some d,.convert t t' x,ty,pos,af,g⟩::rest) a w:=qX F hc (xPh hs ht F e) k
theorem oAc {x y:Operand} {t t':TypeId} {i j:UInt8} (F:Sk a n L) (e:ev L x=some (.int .u8 i.toNat)) (e':ev L y=some (.int .u8 j.toNat)) {w':World}:(execOp a.eval ⟨dd,.binOp .sub t x y t',ty,pos,af,g⟩).run P w'= .ok (.value (.int .u8 (u8w ((i.toNat:Int) - (j.toNat:Int))).toNat)) w':=by
  rw[← xWr]
  unfold execOp;simp only[F.ev e,F.ev e'];rfl
theorem xZm {x y:Operand} {t t':TypeId} {i j:UInt8} (F:Sk a n L) (hc:qH ops n L g d=true) (e:ev L x=some (.int .u8 i.toNat)) (e':ev L y=some (.int .u8 j.toNat)) (k:∀ a',Sk a' n ((d,.int .u8 (u8w ((i.toNat:Int) - (j.toNat:Int))).toNat)::L)→wpList P ops Q rest a' w) :
    wpList P ops Q (⟨some d,.binOp .sub t x y t',ty,pos,af,g⟩::rest) a w:=qX F hc (oAc F e e') k
theorem xZt {x y:Operand} {t t':TypeId} {i j:UInt8} (F:Sk a n L) (e:ev L x=some (.int .u8 i.toNat)) (e':ev L y=some (.int .u8 j.toNat)) {w':World}:(execOp a.eval ⟨dd,.binOp .lss t x y t',ty,pos,af,g⟩).run P w'= .ok (.value (.bool (decide ((i.toNat:Int)<(j.toNat:Int))))) w':=by
  unfold execOp;simp only[F.ev e,F.ev e'];rfl
theorem xZf {x y:Operand} {t t':TypeId} {i j:UInt8} (F:Sk a n L) (e:ev L x=some (.int .u8 i.toNat)) (e':ev L y=some (.int .u8 j.toNat)) {w':World}:(execOp a.eval ⟨dd,.binOp .gtr t x y t',ty,pos,af,g⟩).run P w'= .ok (.value (.bool (decide ((j.toNat:Int)<(i.toNat:Int))))) w':=by
  unfold execOp;simp only[F.ev e,F.ev e'];rfl
theorem xYi {x y:Operand} {t t':TypeId} {i j:UInt8} (F:Sk a n L) (hc:qH ops n L g d=true) (e:ev L x=some (.int .u8 i.toNat)) (e':ev L y=some (.int .u8 j.toNat)) (k:∀ a',Sk a' n ((d,.bool (decide ((i.toNat:Int)<(j.toNat:Int))))::L)→wpList P ops Q rest a' w):wpList P ops Q (⟨some d,.binOp .lss t x y t',ty,pos,af,g⟩::rest) a w:=qX F hc (xZt F e e') k
theorem xYe {x y:Operand} {t t':TypeId} {i j:UInt8} (F:Sk a n L) (hc:qH ops n L g d=true) (e:ev L x=some (.int .u8 i.toNat)) (e':ev L y=some (.int .u8 j.toNat)) (k:∀ a',Sk a' n ((d,.bool (decide ((j.toNat:Int)<(i.toNat:Int))))::L)→wpList P ops Q rest a' w):wpList P ops Q (⟨some d,.binOp .gtr t x y t',ty,pos,af,g⟩::rest) a w:=qX F hc (xZf F e e') k
theorem xYx {α:Type} (enc:α→Value) (Ok:α→Prop) {R:ER α} (hR:∀ w f x,Ok x→f 0=some (enc x)→R w f x []) (h1c:∀ x,(enc x).oneCell'=true)
    {t e:TypeId} {z:Value} {parts:Array (Nat×Operand)} {m:Nat} {xs:List Operand} {l:List α} (ht:P.underlying t=some (.slice e)) (hsz:∀ w,(sizeOf e).run P w= .ok 1 w) (hz:∀ w,(zeroValue e).run P w= .ok z w) (hzs:z.cells.size=1)
    (F:Sk a n L) (hc:qH ops n L g d=true) (hp:parts.toList=(List.range' 0 xs.length).zip xs) (hm:m=l.length) (hm1:l.length≤1000) (hm0:0<l.length)
    (hx:evs L xs=some (l.map enc)) (hI:∀ y∈l,Ok y)
    (k:∀ a' w' v' rb,Row 1 R e w.heap.size w' v' l rb []→Below w.heap.size w w'→Sk a' n ((d,v')::L)→wpList P ops Q rest a' w') :
    wpList P ops Q (⟨some d,.buildSlice t m parts,ty,pos,af,g⟩::rest) a w:=by
  subst hm;have hxs:=F.evs hx
  have hlen:xs.length=l.length:=by have:=congrArg List.length hxs;simpa using this
  obtain⟨cs',e1,e2,e3⟩:=xBy (l.map enc) 0 ((Array.range l.length).map (z.cells[· % z.cells.size]!)) (fun v hv=>by obtain⟨x,_,rfl⟩:=List.mem_map.1 hv;exact h1c x) (by simp)
  have ecs:cs'=(l.map enc).toArray:=by
    apply Array.ext_getElem?
    intro i;rw[e3 i]
    by_cases h:i<l.length
    · rw[if_pos (by simp;exact h)];simp
    · rw[if_neg (by simp;omega),Array.getElem?_eq_none (by simp;omega),Array.getElem?_eq_none (by simp;omega)]
  have hlb:Below w.heap.size w (w.alloc (.cells cs' e)):=(Below.refl _ _).alloc (Nat.le_refl _) _;refine qX (v:=.slice (some ⟨w.heap.size,0,none⟩) l.length l.length) (w':=w.alloc (.cells cs' e)) F hc ?_ (fun a' F'=>k a' _ _ [w.heap.size] ⟨⟨l.map enc,List.replicate l.length [],⟨by simp,.inr ⟨w.heap.size,l.length,cs',rfl,Nat.le_refl _,heap_alloc_new w _,Nat.le_refl _,by unfold maxLen;omega,by rw[ecs];simp,by rw[ecs,List.take_of_length_le (by simp)]⟩⟩,by simp,by simp,fun i y' bj hy' hbj=>?_⟩,rfl,qM.nil _,Dj.nil _⟩ hlb F')
  · unfold execOp
    have hparts:(parts.map fun(i,x)=>(i,a.eval x)).toList=(List.range' 0 l.length).zip (l.map enc):=by
      rw[Array.toList_map,hp,← hxs,hlen];rw[List.zip_map_right]
      rfl
    have h0:l.length≠0:=by omega
    have h1:¬ (16777216<l.length):=by omega
    rw[List.length_map] at e1
    simp [Instr.buildSlice,run_underlying ht,hsz,hz,h0,h1,newRow]
    have hparts':List.map (fun x:Nat×Operand=>(x.1,a.eval x.2)) parts.toList=(List.range' 0 l.length).zip (l.map enc):=by rw[← hparts,Array.toList_map]
    rw[hparts'];simp only[Nat.mul_one] at e1;rw[e1]
    rfl
  · have hi:i<l.length:=(List.getElem?_eq_some_iff.1 hy').1
    have e5:bj=[]:=List.eq_of_mem_replicate (List.mem_of_getElem? hbj);subst e5;exact hR _ _ _ (hI y' (List.mem_of_getElem? hy')) (by simp [hy'])
theorem xZd:∀ (w:World) (f:Nat→Option Value) (x:ByteArray),x.size≤maxLen→f 0=some (Value.string x)→rV w f x []:=fun _ _ _ h h0=>⟨h0,h,rfl⟩
end
end Go.Proofs.YtlommebgedmjdaaGreatDoor
