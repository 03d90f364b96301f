import Derived.Test.YtghihmkhdhjhiaaGreatDoorNE
import Derived.ArgAppend
namespace Go.Proofs.YtghihmkhdhjhiaaGreatDoor
set_option linter.unusedVariables false
set_option linter.unusedSimpArgs false
open Go.RowKit
def nn (x:Int):Option Int:=if 0≤x then some x else none
theorem iX {x z:Int} (h:nn x=some z):0≤x∧z=x:=by
  unfold nn at h
  split at h
  · exact⟨by assumption,(Option.some.inj h).symm⟩
  · cases h
theorem xJz {x:Int} (h:0≤x):nn x=some x:=if_pos h
theorem xJd {z:Int} (h:xO z) (h0:0≤z):xO (z / 2):=by
  have h1:z≤9223372036854775807:=h.2
  show -9223372036854775808≤z / 2∧z / 2≤9223372036854775807
  omega
section
variable {X:List Nat} {N M:Nat→Prop} {w0 w w':World} {L:List As}
theorem Bk.to {N:Nat→Prop} {w1 w:World} {b:Nat} {cs:List Value} {T:TypeId} (h:Bk N w1 b cs T) (s:Sm N w1 w):Bk N w b cs T:=⟨(s.blk b h.2).trans h.1,h.2⟩
def BkV (b:Nat) (cs:List Value) (T:TypeId):VR Unit:=fun w _ _ bs=>eZ w b cs.toArray T∧bs=[b]
instance {b:Nat} {cs:List Value} {T:TypeId}:VF (BkV b cs T):=⟨fun h hs=>⟨(hs b (by rw[h.2];simp)).trans h.1,h.2⟩⟩
theorem Bk.lf {M N:Nat→Prop} {u w:World} {b:Nat} {cs:List Value} {T:TypeId} (h:Bk M u b cs T) (e:Lf M u N w):Bk N w b cs T:=by
  obtain⟨bs,⟨⟨h1,rfl⟩,_⟩,h2⟩:=e (V:=BkV b cs T) (v:=.bool true) (x:=()) ⟨[b],⟨⟨h.1,rfl⟩,fun c hc=>by rw[List.mem_singleton] at hc;subst hc;exact h.1.lt⟩,fun c hc=>by rw[List.mem_singleton] at hc;subst hc;exact h.2⟩;exact⟨h1,h2 b (by simp)⟩
theorem Sep.rob {α:Type} {V:VR α} [hV:VF V] {v:Value} {x:α} (H:Sep X N w0 w L) (h:Bo N w0 V v x):Sep X N w0 w (Go.Proofs.YtghihmkhdhjhiaaGreatDoor.ro N (V:=V) v x::L):=by
  obtain⟨bs,h1,h2⟩:=H.u h;exact H.push (Below.refl _ _) (A:=Go.Proofs.YtghihmkhdhjhiaaGreatDoor.ro N (V:=V) v x) (Y0:=[]) ⟨bs,h1,fun c hc=>.inr (h2 c hc)⟩ n1 (fun _ h=>nomatch h)
theorem Sep.rwo {α:Type} {sz:Nat} {R:ER α} [hR:FrC sz R] {E:TypeId} {v:Value} {l:List α} (H:Sep X N w0 w (rw M sz R E v l::L)):Sep X N w0 w (Go.Proofs.YtghihmkhdhjhiaaGreatDoor.ro M (V:=Sl sz R) v l::L):=by
  obtain⟨Y,⟨rb,ib,r1,r2,r3⟩,hN,hY,tr⟩:=H.hd;exact tr (Z:=[]) (fun _ h=>nomatch h) (Only.refl _ _) (B:=Go.Proofs.YtghihmkhdhjhiaaGreatDoor.ro M (V:=Sl sz R) v l) (Y1:=Y) ⟨rb++ib,r1.rd,fun c hc=>(List.mem_append.1 hc).elim (fun h=>.inl (r2 c h)) (r3 c)⟩ hN (fun c hc=>⟨.inl hc,(hY c hc).1⟩)
theorem Sep.rok {α:Type} {V:VR α} [hV:VF V] {v:Value} {x:α} (H:Sep X N w0 w (Go.Proofs.YtghihmkhdhjhiaaGreatDoor.ro M (V:=V) v x::L)):Sep X N w0 w (Go.Proofs.YtghihmkhdhjhiaaGreatDoor.ro N (V:=V) v x::L):=by
  obtain⟨Y,⟨bs,h1,h2⟩,hN,hY,tr⟩:=H.hd;exact tr (Z:=[]) (fun _ h=>nomatch h) (Only.refl _ _) (B:=Go.Proofs.YtghihmkhdhjhiaaGreatDoor.ro N (V:=V) v x) (Y1:=Y) ⟨bs,h1,fun c hc=>(h2 c hc).imp id (hN c)⟩ n1 (fun c hc=>⟨.inl hc,(hY c hc).1⟩)
end
section
variable {P:Program} {ops:Array Oper} {Q:Exit→Act→World→Prop} {a:Act} {w w0 w1:World} {n:Nat} {L:List (Nat×Value)} {rest:List Oper} {d:Nat} {ty:TypeId} {pos:String} {af:Array Edge} {g:Option (Nat×Bool)} {M M' N:Nat→Prop} {X:List Nat} {D:List As}
theorem oEn {α:Type} {sz:Nat} {R:ER α} {x y:Operand} {t t':TypeId} {v:Value} {l:List α} {e0:TypeId} (ht:P.underlying t=some (.slice e0)) (F:Sk a n L) (hc:kV ops n L g d=true) (e:ev L x=some v) (e':ev L y=some (.slice none 0 0)) (h:Bo M w (Sl sz R) v l)
    (k:∀ a' (b:Bool),(b=true→l=[])→Sk a' n ((d,.bool b)::L)→wpList P ops Q rest a' w):wpList P ops Q (⟨some d,.binOp .eql t x y t',ty,pos,af,g⟩::rest) a w:=
  let ⟨_,h1,_⟩:=h;xHc ht F hc e e' h1 k
theorem oU1 {x:Operand} {t t':TypeId} {z:Int} {i:Int} {ut:TypeDesc} (hs:P.underlying t=some ut) (ht:P.underlying t'=some (.int .u64)) (F:Sk a n L) (hc:kV ops n L g d=true) (e:ev L x=some (.int .i64 i)) (hi:xO i) (hz:nn i=some z)
    (k:∀ a',Sk a' n ((d,.int .u64 z)::L)→wpList P ops Q rest a' w):wpList P ops Q (⟨some d,.convert t t' x,ty,pos,af,g⟩::rest) a w:=by
  obtain⟨h0,rfl⟩:=iX hz;have h1:z≤9223372036854775807:=hi.2
  have hw:IntKind.u64.wrap z=z:=by
    unfold IntKind.wrap
    simp only[show IntKind.u64.bits=64 from rfl,show IntKind.u64.signed=false from rfl];rw[Int.emod_eq_of_lt h0 (by omega)]
    simp
  refine zA F hc ?_ k
  unfold execOp
  simp [F.ev e,convert,run_underlying hs,run_underlying ht,Conv.intToInt,hw]
theorem oU2 {x:Operand} {t t':TypeId} {z:Int} (F:Sk a n L) (hc:kV ops n L g d=true) (e:ev L x=some (.int .u64 z))
    (k:∀ a',Sk a' n ((d,.int .u64 (z / 2))::L)→wpList P ops Q rest a' w):wpList P ops Q (⟨some d,.binOp .shr t x (.const (.int .u64 1)) t',ty,pos,af,g⟩::rest) a w:=by
  refine zA F hc ?_ k
  unfold execOp
  simp only[F.ev e];have:=shift_shr_u64 .u64 z 1 (by decide) (by decide);simp only[show(2:Int) ^ (1:Int).toNat=2 from rfl] at this;have h2:a.eval (.const (.int .u64 1))= .int .u64 1:=rfl;rw[h2]
  simp [eqGuard,binOp,this]
theorem oU3 {x:Operand} {t t':TypeId} {z:Int} {ut:TypeDesc} (hs:P.underlying t=some ut) (ht:P.underlying t'=some (.int .i64)) (F:Sk a n L) (hc:kV ops n L g d=true) (e:ev L x=some (.int .u64 z)) (hi:xO z)
    (k:∀ a',Sk a' n ((d,.int .i64 z)::L)→wpList P ops Q rest a' w):wpList P ops Q (⟨some d,.convert t t' x,ty,pos,af,g⟩::rest) a w:=by
  refine zA F hc ?_ k
  unfold execOp
  simp [F.ev e,convert,run_underlying hs,run_underlying ht,Conv.intToInt,IntWalk.i64_in _ hi]
end
section
variable {X:List Nat} {N:Nat→Prop} {w0 w:World} {L:List As} {β:Type} {f:β→As} {h:∀ b c,¬ (f b).N c}
end
end Go.Proofs.YtghihmkhdhjhiaaGreatDoor
