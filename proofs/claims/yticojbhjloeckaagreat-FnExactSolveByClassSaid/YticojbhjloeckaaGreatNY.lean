import Derived.Test.YticojbhjloeckaaGreatNE
import Derived.Test.YticojbhjloeckaaGreatY
namespace Go.Proofs.YticojbhjloeckaaGreat
set_option linter.unusedVariables false
set_option linter.unusedSimpArgs false
open Go.RowKit
section
variable {P:Program} {ops:Array Oper} {Q:Exit→Act→World→Prop} {a:Act} {w w0:World} {n:Nat} {L:List (Nat×Value)} {rest:List Oper} {d:Nat} {ty:TypeId} {pos:String} {af:Array Edge} {g:Option (Nat×Bool)} {N:Nat→Prop} {X:List Nat} {D:List As} {f:FuncId} {xs:List Operand} {at':Array TypeId} {vs:List Value} {α:Type} {V:VR α} {M M':Nat→Prop}
theorem nTo [hV:VF V] {M:Nat→Prop} {x:α} {u:Value} (F:Sk a n L) (hc:kN ops n L g d=true) (hf:∀ args w,(callFunc f args).run P w= .ok (.enter f args) w) (e:evs L xs=some vs) (H:Sep X N w0 w D) (h:Bo M w V u x)
    (cl:∀ {bs},Rd V w u x bs→Calls P f vs.toArray w (fun e w'=>∃ v bs,e= .returned v∧V w' v x bs∧Own w.heap.size bs w'∧Below w.heap.size w w'))
    (k:∀ a' w' v,Sep X N w0 w' (ow (V:=V) v x::D)→Sk a' n ((d,v)::L)→wpList P ops Q rest a' w'):wpList P ops Q (⟨some d,.call ⟨.value (.func f),xs.toArray,at'⟩,ty,pos,af,g⟩::rest) a w:=by
  obtain⟨_,h1,_⟩:=h
  exact o_call (Φ:=fun v w'=>∃ bs,V w' v x bs∧Own w.heap.size bs w'∧Below w.heap.size w w') F hc hf e (cl h1) (fun e w' ⟨v,bs,he,h1,h2,h3⟩=>⟨v,he,bs,h1,h2,h3⟩)
    (fun a' v w' ⟨bs,h1,h2,h3⟩ F'=>k a' w' v (H.push h3 (A:=ow (V:=V) v x) (Y0:=bs) ⟨bs,⟨h1,h2.inMem⟩,h2.mono (Nat.zero_le _),fun _ hc=>hc⟩ n0 (fun c hc=>⟨(h2.2 c hc).1,h2.inMem c hc⟩)) F')
theorem nEq {x y:α} {u v:Value} {z:Bool} (F:Sk a n L) (hc:kN ops n L g d=true) (hf:∀ args w,(callFunc f args).run P w= .ok (.enter f args) w) (e:evs L xs=some vs) (H:Sep X N w0 w D) (h:Bo M w V u x) (h':Bo M' w V v y) (c:eqq x y=some z)
    (cl:∀ {bs cs},Rd V w u x bs→Rd V w v x cs→Calls P f vs.toArray w (vV (.bool true) w))
    (k:∀ a' w',Sep X N w0 w' D→Sk a' n ((d,.bool z)::L)→wpList P ops Q rest a' w'):wpList P ops Q (⟨some d,.call ⟨.value (.func f),xs.toArray,at'⟩,ty,pos,af,g⟩::rest) a w:=by
  obtain⟨rfl,rfl⟩:=eqq_some c;obtain⟨_,h1,_⟩:=h;obtain⟨_,h2,_⟩:=h';exact oK F hc hf e H (cl h1 h2) k
theorem nSz {x:α} {u:Value} {left z:Int} {m:Nat} (F:Sk a n L) (hc:kN ops n L g d=true) (hf:∀ args w,(callFunc f args).run P w= .ok (.enter f args) w) (e:evs L xs=some vs) (H:Sep X N w0 w D) (h:Bo M w V u x) (c:szq left m=some z)
    (cl:∀ {bs},Rd V w u x bs→0≤left→left≤1048576→Calls P f vs.toArray w (vV (.int .i64 (szR left m)) w))
    (k:∀ a' w',Sep X N w0 w' D→xY z→Sk a' n ((d,.int .i64 z)::L)→wpList P ops Q rest a' w'):wpList P ops Q (⟨some d,.call ⟨.value (.func f),xs.toArray,at'⟩,ty,pos,af,g⟩::rest) a w:=by
  obtain⟨_,h1,_⟩:=h;exact oKI F hc hf e H (szq_says c (cl h1)) k
theorem nHl {x:α} {u:Value} {i z:Int} {m:Nat} (F:Sk a n L) (hc:kN ops n L g d=true) (hf:∀ args w,(callFunc f args).run P w= .ok (.enter f args) w) (e:evs L xs=some vs) (H:Sep X N w0 w D) (h:Bo M w V u x) (c:mkq i m=some z)
    (cl:∀ {bs},Rd V w u x bs→0≤i→i+(m:Nat)≤4611686018427387904→Calls P f vs.toArray w (vV (.int .i64 (i+(m:Nat))) w))
    (k:∀ a' w',Sep X N w0 w' D→xY z→Sk a' n ((d,.int .i64 z)::L)→wpList P ops Q rest a' w'):wpList P ops Q (⟨some d,.call ⟨.value (.func f),xs.toArray,at'⟩,ty,pos,af,g⟩::rest) a w:=by
  obtain⟨_,h1,_⟩:=h;exact oKI F hc hf e H (mkq_says c (cl h1)) k
theorem nMk [hV:VF V] {x x':α} {u:Value} {i z:Int} {m:Nat} (F:Sk a n L) (hc:kN ops n L g d=true) (hf:∀ args w,(callFunc f args).run P w= .ok (.enter f args) w) (e:evs L xs=some vs) (H:Sep X N w0 w (ow (V:=V) u x::D)) (c:mkq i m=some z)
    (cl:∀ {bs},Rd V w u x bs→Own 0 bs w→0≤i→i+(m:Nat)≤4611686018427387904→Calls P f vs.toArray w (fun e w'=>e= .returned (.int .i64 (i+(m:Nat)))∧Only bs w w'∧V w' u x' bs∧Own 0 bs w'))
    (k:∀ a' w',Sep X N w0 w' (ow (V:=V) u x'::D)→xY z→Sk a' n ((d,.int .i64 z)::L)→wpList P ops Q rest a' w'):wpList P ops Q (⟨some d,.call ⟨.value (.func f),xs.toArray,at'⟩,ty,pos,af,g⟩::rest) a w:=by
  have hi:=mkq_i c;obtain⟨h0,h1,rfl⟩:=mkq_some c;obtain⟨Y,⟨bs,p1,p2,p3⟩,_,hY,tr⟩:=H.hd;refine o_call (Φ:=fun v w'=>v= .int .i64 (i+(m:Nat))∧Only bs w w'∧V w' u x' bs∧Own 0 bs w') F hc hf e (cl p1 p2 h0 h1) (fun e w' ⟨he,h1,h2,h3⟩=>⟨_,he,rfl,h1,h2,h3⟩) (fun a' v w' ⟨e,h1,h2,h3⟩ F'=>?_);subst e;exact k a' w' (tr (Z:=bs) p3 h1 (B:=ow (V:=V) u x') (Y1:=bs) ⟨bs,⟨h2,h3.inMem⟩,h3,fun _ hc=>hc⟩ n0 (fun c hc=>⟨.inl (p3 c hc),h3.inMem c hc⟩)) hi F'
end
end Go.Proofs.YticojbhjloeckaaGreat
