import Derived.Test.YtlommebgedmjdaaGreatDoorNE
import Derived.ArgAppend
namespace Go.Proofs.YtlommebgedmjdaaGreatDoor
set_option linter.unusedVariables false
set_option linter.unusedSimpArgs false
open Go.RowKit
def nn (x:Int):Option Int:=if 0≤x then some x else none
theorem nT {x z:Int} (h:nn x=some z):0≤x∧z=x:=by
  unfold nn at h
  split at h
  · exact⟨by assumption,(Option.some.inj h).symm⟩
  · cases h
theorem xTl {x:Int} (h:0≤x):nn x=some x:=if_pos h
theorem xRq {z:Int} (h:xH z) (h0:0≤z):xH (z / 2):=by
  have h1:z≤9223372036854775807:=h.2
  show -9223372036854775808≤z / 2∧z / 2≤9223372036854775807
  omega
section
variable {X:List Nat} {N M:Nat→Prop} {w0 w w':World} {L:List As}
theorem Bk.to {N:Nat→Prop} {w1 w:World} {b:Nat} {cs:List Value} {T:TypeId} (h:Bk N w1 b cs T) (s:Sm N w1 w):Bk N w b cs T:=⟨(s.blk b h.2).trans h.1,h.2⟩
def BkV (b:Nat) (cs:List Value) (T:TypeId):VR Unit:=fun w _ _ bs=>fI w b cs.toArray T∧bs=[b]
instance {b:Nat} {cs:List Value} {T:TypeId}:VF (BkV b cs T):=⟨fun h hs=>⟨(hs b (by rw[h.2];simp)).trans h.1,h.2⟩⟩
theorem Bk.lf {M N:Nat→Prop} {u w:World} {b:Nat} {cs:List Value} {T:TypeId} (h:Bk M u b cs T) (e:Lf M u N w):Bk N w b cs T:=by
  obtain⟨bs,⟨⟨h1,rfl⟩,_⟩,h2⟩:=e (V:=BkV b cs T) (v:=.bool true) (x:=()) ⟨[b],⟨⟨h.1,rfl⟩,fun c hc=>by rw[List.mem_singleton] at hc;subst hc;exact h.1.lt⟩,fun c hc=>by rw[List.mem_singleton] at hc;subst hc;exact h.2⟩;exact⟨h1,h2 b (by simp)⟩
theorem Sep.rob {α:Type} {V:VR α} [hV:VF V] {v:Value} {x:α} (H:Sep X N w0 w L) (h:Bo N w0 V v x):Sep X N w0 w (Go.Proofs.YtlommebgedmjdaaGreatDoor.ro N (V:=V) v x::L):=by
  obtain⟨bs,h1,h2⟩:=H.u h;exact H.push (Below.refl _ _) (A:=Go.Proofs.YtlommebgedmjdaaGreatDoor.ro N (V:=V) v x) (Y0:=[]) ⟨bs,h1,fun c hc=>.inr (h2 c hc)⟩ n1 (fun _ h=>nomatch h)
theorem Sep.rwo {α:Type} {sz:Nat} {R:ER α} [hR:FrC sz R] {E:TypeId} {v:Value} {l:List α} (H:Sep X N w0 w (rw M sz R E v l::L)):Sep X N w0 w (Go.Proofs.YtlommebgedmjdaaGreatDoor.ro M (V:=Sl sz R) v l::L):=by
  obtain⟨Y,⟨rb,ib,r1,r2,r3⟩,hN,hY,tr⟩:=H.hd;exact tr (Z:=[]) (fun _ h=>nomatch h) (Only.refl _ _) (B:=Go.Proofs.YtlommebgedmjdaaGreatDoor.ro M (V:=Sl sz R) v l) (Y1:=Y) ⟨rb++ib,r1.rd,fun c hc=>(List.mem_append.1 hc).elim (fun h=>.inl (r2 c h)) (r3 c)⟩ hN (fun c hc=>⟨.inl hc,(hY c hc).1⟩)
theorem Sep.rok {α:Type} {V:VR α} [hV:VF V] {v:Value} {x:α} (H:Sep X N w0 w (Go.Proofs.YtlommebgedmjdaaGreatDoor.ro M (V:=V) v x::L)):Sep X N w0 w (Go.Proofs.YtlommebgedmjdaaGreatDoor.ro N (V:=V) v x::L):=by
  obtain⟨Y,⟨bs,h1,h2⟩,hN,hY,tr⟩:=H.hd;exact tr (Z:=[]) (fun _ h=>nomatch h) (Only.refl _ _) (B:=Go.Proofs.YtlommebgedmjdaaGreatDoor.ro N (V:=V) v x) (Y1:=Y) ⟨bs,h1,fun c hc=>(h2 c hc).imp id (hN c)⟩ n1 (fun c hc=>⟨.inl hc,(hY c hc).1⟩)
end
section
variable {P:Program} {ops:Array Oper} {Q:Exit→Act→World→Prop} {a:Act} {w w0 w1:World} {n:Nat} {L:List (Nat×Value)} {rest:List Oper} {d:Nat} {ty:TypeId} {pos:String} {af:Array Edge} {g:Option (Nat×Bool)} {M M' N:Nat→Prop} {X:List Nat} {D:List As}
theorem oEn {α:Type} {sz:Nat} {R:ER α} {x y:Operand} {t t':TypeId} {v:Value} {l:List α} {e0:TypeId} (ht:P.underlying t=some (.slice e0)) (F:Sk a n L) (hc:qH ops n L g d=true) (e:ev L x=some v) (e':ev L y=some (.slice none 0 0)) (h:Bo M w (Sl sz R) v l)
    (k:∀ a' (b:Bool),(b=true→l=[])→Sk a' n ((d,.bool b)::L)→wpList P ops Q rest a' w):wpList P ops Q (⟨some d,.binOp .eql t x y t',ty,pos,af,g⟩::rest) a w:=
  let ⟨_,h1,_⟩:=h;xRe ht F hc e e' h1 k
theorem oU1 {x:Operand} {t t':TypeId} {z:Int} {i:Int} {ut:TypeDesc} (hs:P.underlying t=some ut) (ht:P.underlying t'=some (.int .u64)) (F:Sk a n L) (hc:qH ops n L g d=true) (e:ev L x=some (.int .i64 i)) (hi:xH i) (hz:nn i=some z)
    (k:∀ a',Sk a' n ((d,.int .u64 z)::L)→wpList P ops Q rest a' w):wpList P ops Q (⟨some d,.convert t t' x,ty,pos,af,g⟩::rest) a w:=by
  obtain⟨h0,rfl⟩:=nT hz;have h1:z≤9223372036854775807:=hi.2
  have hw:IntKind.u64.wrap z=z:=by
    unfold IntKind.wrap
    simp only[show IntKind.u64.bits=64 from rfl,show IntKind.u64.signed=false from rfl];rw[Int.emod_eq_of_lt h0 (by omega)]
    simp
  refine qX F hc ?_ k
  unfold execOp
  simp [F.ev e,convert,run_underlying hs,run_underlying ht,Conv.intToInt,hw]
theorem oU2 {x:Operand} {t t':TypeId} {z:Int} (F:Sk a n L) (hc:qH ops n L g d=true) (e:ev L x=some (.int .u64 z))
    (k:∀ a',Sk a' n ((d,.int .u64 (z / 2))::L)→wpList P ops Q rest a' w):wpList P ops Q (⟨some d,.binOp .shr t x (.const (.int .u64 1)) t',ty,pos,af,g⟩::rest) a w:=by
  refine qX F hc ?_ k
  unfold execOp
  simp only[F.ev e];have:=shift_shr_u64 .u64 z 1 (by decide) (by decide);simp only[show(2:Int) ^ (1:Int).toNat=2 from rfl] at this;have h2:a.eval (.const (.int .u64 1))= .int .u64 1:=rfl;rw[h2]
  simp [eqGuard,binOp,this]
theorem oU3 {x:Operand} {t t':TypeId} {z:Int} {ut:TypeDesc} (hs:P.underlying t=some ut) (ht:P.underlying t'=some (.int .i64)) (F:Sk a n L) (hc:qH ops n L g d=true) (e:ev L x=some (.int .u64 z)) (hi:xH z)
    (k:∀ a',Sk a' n ((d,.int .i64 z)::L)→wpList P ops Q rest a' w):wpList P ops Q (⟨some d,.convert t t' x,ty,pos,af,g⟩::rest) a w:=by
  refine qX F hc ?_ k
  unfold execOp
  simp [F.ev e,convert,run_underlying hs,run_underlying ht,Conv.intToInt,IntWalk.i64_in _ hi]
theorem oCl {α:Type} {sz:Nat} {R:ER α} {x hi mx:Operand} {t E:TypeId} {v:Value} {l:List α} (ht:P.underlying t=some (.slice E)) (hsz:∀ w,(sizeOf E).run P w= .ok sz w)
    (F:Sk a n L) (hc:qH ops n L g d=true) (hx:ev L x=some v) (hh:ev L hi=some (.int .i64 (l.length:Int))) (hm:ev L mx=some (.int .i64 (l.length:Int))) (h:Bo M w1 (Sl sz R) v l)
    (k:∀ a' p,Bo M w1 (Sl sz R) (.slice p l.length l.length) l→Sk a' n ((d,.slice p l.length l.length)::L)→wpList P ops Q rest a' w):wpList P ops Q (⟨some d,.slice t x none (some hi) (some mx),ty,pos,af,g⟩::rest) a w:=by
  obtain⟨bs,⟨⟨ad,c,rfl,h1,h2,h3,h4⟩,hm'⟩,hN⟩:=h
  have h5:(l.length:Int)≤c:=by omega
  have hr:(execOp a.eval ⟨some d,.slice t x none (some hi) (some mx),ty,pos,af,g⟩).run P w= .ok (.value (.slice (if l.length=0 then ad else ad.map (·.add 0)) l.length l.length)) w:=by
    unfold execOp
    simp only[F.ev hx,F.ev hh,F.ev hm,Option.map_none,Option.map_some]
    simp [Instr.sliceAt,Instr.slice,run_underlying ht,Instr.sliceBounds,Instr.sliceBound,asIntOf,hsz,h1,h5]
  refine qX F hc hr (fun a' F'=>k a' _ ⟨bs,⟨⟨_,l.length,rfl,Nat.le_refl _,Nat.le_trans h1 h2,fun e=>?_,?_⟩,hm'⟩,hN⟩ F')
  · split at e
    · assumption
    · rename_i hne
      rcases h4 with ⟨rfl,_⟩ | ⟨b,o,bss,rfl,_,_⟩
      · exact absurd rfl hne
      · cases e
  · rcases h4 with ⟨rfl,rfl⟩ | ⟨b,o,bss,rfl,rfl,he⟩
    · exact .inl ⟨rfl,rfl⟩
    · refine .inr ⟨b,o,bss,?_,rfl,he⟩
      split
      · rfl
      · simp [iF]
theorem oPc {x y:Operand} {t E:TypeId} {z:Value} {bytes n0:Nat} {p:Option Addr} {u:Value} {l m r:List Int} (ht:P.underlying t=some (.slice E)) (hinfo:(P.info? E).map (fun i=>(i.zero,i.size,i.bytes))=some (some z,1,bytes)) (hzs:z.cells.size=1) (hb:Nat.ble bytes 1024=true)
    (hg:g=none) (F:Sk a n L) (hc:qH ops n L g d=true) (hx:ev L x=some (.slice p n0 n0)) (hy:ev L y=some u) (h:Bo M w (Sl 1 xG) (.slice p n0 n0) l) (H:Sep X N w0 w D) (h':Bo M' w (Sl 1 xG) u m) (hm:m≠[]) (hap:ap l m=some r)
    (k:∀ a' w' v',Sep X N w0 w' (rl 1 xG E v' r::D)→Sk a' n ((d,v')::L)→wpList P ops Q rest a' w'):wpList P ops Q (⟨some d,.call ⟨.builtin .append,#[x,y],#[t,t]⟩,ty,pos,af,g⟩::rest) a w:=by
  obtain⟨hlen,rfl⟩:=xOt hap;obtain⟨i,hi,hzz⟩:=Option.map_eq_some_iff.1 hinfo;simp only[Prod.mk.injEq] at hzz;obtain⟨hz,hsize,hbyt⟩:=hzz;obtain⟨bs,h1,_⟩:=h;obtain⟨bs',h1',_⟩:=h';obtain⟨a1,c1,e1,h2,h3,h4,h5⟩:=h1.r;obtain⟨a2,c2,rfl,h2',h3',h4',h5'⟩:=h1'.r
  injection e1 with e1 e2 e3
  subst e1;have hml:0<m.length:=List.length_pos_iff.2 hm
  have cells:∀ {b o:Nat} {q:List Int} {bss:List (List Nat)},Els 1 xG w b o q bss→(∀ j u,(q.map (Value.int .i64))[j]?=some u→w.cell? ⟨b,o+j,none⟩=some u)∧∀ y∈q,xH y:=fun {b o q bss} he=>by
    refine⟨fun j u hj=>?_,fun y hy=>?_⟩
    · rw[List.getElem?_map,Option.map_eq_some_iff] at hj
      obtain⟨y,hy,rfl⟩:=hj;have hlt:=(List.getElem?_eq_some_iff.1 hy).1;have:=(he.2 j y _ hy (List.getElem?_eq_getElem (by rw[he.1];exact hlt))).1
      simpa using this
    · obtain⟨j,hj,rfl⟩:=List.getElem_of_mem hy
      exact(he.2 j _ _ (List.getElem?_eq_getElem hj) (List.getElem?_eq_getElem (by rw[he.1];exact hj))).2.1
  rcases h5' with ⟨rfl,_⟩ | ⟨b2,o2,bss2,rfl,rfl,he2⟩
  · exact absurd rfl hm
  obtain⟨q1,q2⟩:=cells he2;have hl0:n0=l.length:=e2
  have hI:∀ y∈l,xH y:=by
    rcases h5 with ⟨rfl,_⟩ | ⟨b,o,bss,_,_,he⟩
    · intro y hy;cases hy
    · exact(cells he).2
  refine wpList_append_grows (w:=w) hg x y t rfl E i z 1 bytes ht hi hz hsize hbyt hzs (by decide) p n0 n0 (l.map (Value.int .i64)) (F.ev hx) (fun e=>?_) (by simp [hl0]) (fun b hb j u hj=>?_) ⟨b2,o2,none⟩ m.length c2 (m.map (Value.int .i64)) (F.ev hy) (by simp) (fun j u hj=>by rw[Addr.add_lit];exact q1 j u hj) (fun u hu=>by
      obtain⟨y,_,rfl⟩:=List.mem_map.1 hu
      rfl) (by omega) (by unfold maxLen;omega) (by
      have hb:=Nat.le_of_ble_eq_true hb;rw[hl0]
      exact Nat.le_trans (Nat.mul_le_mul_left _ hb) hlen) (fun v' w' o1 o2=>?_)
  · have:=h4 e
    omega
  · rcases h5 with ⟨rfl,_⟩ | ⟨b',o,bss,e',_,he⟩
    · simp at hj
    · rw[hb] at e'
      cases e'
      rw[Addr.add_lit];exact(cells he).1 j u hj
  · have hl:Below w.heap.size w w':=⟨o2.os,o2.tape,o2.output,o2.size,fun j hj=>o2.block j hj (fun h=>nomatch h)⟩
    have hrow:Row 1 xG E w.heap.size w' v' (l++m) (sW v') []:=by
      refine⟨⟨(l.map (Value.int .i64))++m.map (Value.int .i64),List.replicate (l++m).length [],by rw[List.length_append,← hl0];exact o1,by simp,by simp,fun j y bi hy hbi=>?_⟩,rfl,(fun _ h=>nomatch h),Dj.nil _⟩;have hbi':=List.eq_of_mem_replicate (List.mem_of_getElem? hbi);refine⟨?_,?_,hbi'⟩
      · rw[← List.map_append,Nat.mul_one]
        show((l++m).map (Value.int .i64))[j]?=_
        rw[List.getElem?_map,hy]
        rfl
      · rcases List.mem_append.1 (List.mem_of_getElem? hy) with h | h
        · exact hI y h
        · exact q2 y h
    unfold qH at hc
    rw[Bool.and_eq_true] at hc;exact k _ w' v' (Row.push H hl hrow) (F.put v' hc.2)
end
def exA {β:Type} (f:β→As) (h:∀ b c,¬ (f b).N c):As:=⟨N0,fun w Y=>∃ b,(f b).P w Y,fun⟨b,hb⟩ h1 _ hs=>⟨b,(f b).st hb h1 (fun c hc=>(h b c hc).elim) hs⟩⟩
section
variable {X:List Nat} {N:Nat→Prop} {w0 w:World} {L:List As} {β:Type} {f:β→As} {h:∀ b c,¬ (f b).N c}
theorem Sep.exI {b:β} (H:Sep X N w0 w (f b::L)):Sep X N w0 w (exA f h::L):=by
  obtain⟨Y,hP,hN,hY,tr⟩:=H.hd;exact tr (Z:=[]) (fun _ h=>nomatch h) (Only.refl _ _) (B:=exA f h) (Y1:=Y) ⟨b,hP⟩ n0 (fun c hc=>⟨.inl hc,(hY c hc).1⟩)
theorem Sep.exE (H:Sep X N w0 w (exA f h::L)):∃ b,Sep X N w0 w (f b::L):=by
  obtain⟨Y,⟨b,hP⟩,hN,hY,tr⟩:=H.hd;exact⟨b,tr (Z:=[]) (fun _ h=>nomatch h) (Only.refl _ _) (B:=f b) (Y1:=Y) hP (fun c hc=>(h b c hc).elim) (fun c hc=>⟨.inl hc,(hY c hc).1⟩)⟩
end
theorem Sep.lend1 {X:List Nat} {N:Nat→Prop} {w0 w:World} {A:As} {L:List As} (H:Sep X N w0 w (A::L)):∃ (X1:List Nat),Sep X1 N w w [A]∧∀ {w':World} {A':As},Sep X1 N w w' [A']→Sep X N w0 w' (A'::L):=
  let ⟨X1,h1,h2⟩:=Sep.lend (K:=[A]) (L:=L) H;⟨X1,h1,fun S=>h2 S⟩
theorem Sep.lend2 {X:List Nat} {N:Nat→Prop} {w0 w:World} {A B:As} {L:List As} (H:Sep X N w0 w (A::B::L)):∃ (X1:List Nat),Sep X1 N w w [A,B]∧∀ {w':World} {A':As},Sep X1 N w w' [A']→Sep X N w0 w' (A'::L):=
  let ⟨X1,h1,h2⟩:=Sep.lend (K:=[A,B]) (L:=L) H;⟨X1,h1,fun S=>h2 S⟩
end Go.Proofs.YtlommebgedmjdaaGreatDoor
namespace Go.Proofs.YtlommebgedmjdaaGreatDoor
set_option linter.unusedVariables false
set_option linter.unusedSimpArgs false
open Go.RowKit
section
variable {P:Program} {ops:Array Oper} {Q:Exit→Act→World→Prop} {a:Act} {w w0 w1:World} {n:Nat} {L:List (Nat×Value)} {rest:List Oper} {d:Nat} {ty:TypeId} {pos:String} {af:Array Edge} {g:Option (Nat×Bool)}
theorem oDc {x y:Operand} {t t':TypeId} {i j:Int} (F:Sk a n L) (hc:qH ops n L g d=true) (e:ev L x=some (.int .u64 i)) (e':ev L y=some (.int .u64 j))
    (k:∀ a',Sk a' n ((d,.int .u64 (IntKind.u64.wrap (i+j)))::L)→wpList P ops Q rest a' w):wpList P ops Q (⟨some d,.binOp .add t x y t',ty,pos,af,g⟩::rest) a w:=by
  refine qX F hc ?_ k
  unfold execOp
  simp only[F.ev e,F.ev e']
  rfl
theorem oDb {x y:Operand} {t t':TypeId} {i j:Int} (F:Sk a n L) (hc:qH ops n L g d=true) (e:ev L x=some (.int .u64 i)) (e':ev L y=some (.int .u64 j))
    (k:∀ a',Sk a' n ((d,.int .u64 (IntKind.u64.wrap (i*j)))::L)→wpList P ops Q rest a' w):wpList P ops Q (⟨some d,.binOp .mul t x y t',ty,pos,af,g⟩::rest) a w:=by
  refine qX F hc ?_ k
  unfold execOp
  simp only[F.ev e,F.ev e']
  rfl
theorem oCe {x y:Operand} {t t':TypeId} {i j:Int} (F:Sk a n L) (hc:qH ops n L g d=true) (e:ev L x=some (.int .u64 i)) (e':ev L y=some (.int .u64 j))
    (k:∀ a',Sk a' n ((d,.int .u64 (Go.bits .and .u64 i j))::L)→wpList P ops Q rest a' w):wpList P ops Q (⟨some d,.binOp .and t x y t',ty,pos,af,g⟩::rest) a w:=by
  refine qX F hc ?_ k
  unfold execOp
  simp only[F.ev e,F.ev e']
  rfl
theorem oCd {x:Operand} {t t':TypeId} {i j:Int} (F:Sk a n L) (hc:qH ops n L g d=true) (e:ev L x=some (.int .u64 i)) (hj:0≤j∧j≤64)
    (k:∀ a',Sk a' n ((d,.int .u64 (i / 2 ^ j.toNat))::L)→wpList P ops Q rest a' w):wpList P ops Q (⟨some d,.binOp .shr t x (.const (.int .u64 j)) t',ty,pos,af,g⟩::rest) a w:=by
  refine qX F hc ?_ k
  unfold execOp
  simp only[F.ev e];have h2:a.eval (.const (.int .u64 j))= .int .u64 j:=rfl;rw[h2]
  simp [eqGuard,binOp,shift_shr_u64 .u64 i j hj.1 hj.2]
theorem oUw {x:Operand} {t t':TypeId} {i:Int} {ut:TypeDesc} (hs:P.underlying t=some ut) (ht:P.underlying t'=some (.int .i64)) (F:Sk a n L) (hc:qH ops n L g d=true) (e:ev L x=some (.int .u64 i))
    (k:∀ a',Sk a' n ((d,.int .i64 (IntKind.i64.wrap i))::L)→wpList P ops Q rest a' w):wpList P ops Q (⟨some d,.convert t t' x,ty,pos,af,g⟩::rest) a w:=by
  refine qX F hc ?_ k
  unfold execOp
  simp [F.ev e,convert,run_underlying hs,run_underlying ht,Conv.intToInt]
end
end Go.Proofs.YtlommebgedmjdaaGreatDoor
