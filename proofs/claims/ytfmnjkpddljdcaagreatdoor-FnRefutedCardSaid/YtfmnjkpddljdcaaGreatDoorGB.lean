import Derived.Test.YtfmnjkpddljdcaaGreatDoorNE
import Derived.Test.YtfmnjkpddljdcaaGreatDoorER
import Derived.Shelf.Strings.BuilderK
namespace Go.Proofs.YtfmnjkpddljdcaaGreatDoor
set_option linter.unusedVariables false
set_option linter.unusedSimpArgs false
open Go.RowKit
theorem xPg {Φ:Value→World→Prop} {w w':World} {e:Ending} {B:Nat→Prop} (hN:∀ c,B c→c<w.heap.size) (h:xIo Φ w e w'):Gv (fun v w'=>Φ v w'∧Sep [] B w w' []) e w':=
  let ⟨v,h1,h2,h3⟩:=h;⟨v,h1,h3,(Sep.start hN).go h2⟩
theorem wD {B:Nat→Prop} {x0 x1:Int} (r:ByteArray) (hR:fN x0 x1=some r) (w0:World) (hN:∀ c,B c→c<w0.heap.size) (hG:Glo w0) (hx0:xS x0) (hx1:xS x1):Calls Tryz.prog 123 #[.int .i64 x0,.int .i64 x1] w0 (Gv (fun v w'=>v= .string r∧Sep [] B w0 w' []∧r.size≤maxLen)):=
  (uW r hR w0 hG hx0 hx1).mono fun e w' h=>let ⟨v,h1,⟨h2,h3⟩,h4⟩:=xPg hN h;⟨v,h1,h2,h4,h3⟩
theorem xDt {B:Nat→Prop} {x0:List ByteArray} {x1:ByteArray} (r:ByteArray) (hR:mH x0 x1=some r) {v0:Value} (w0:World) (hN:∀ c,B c→c<w0.heap.size) (A0:Bo B w0 (Sl 1 pZ) v0 x0) (hx1:x1.size≤maxLen):Calls Tryz.prog 85 #[v0,.string x1] w0 (Gv (fun v w'=>v= .string r∧Sep [] B w0 w' []∧r.size≤maxLen)):=
  let ⟨_,A,_⟩:=A0;(xDw r hR w0 A hx1).mono fun e w' h=>let ⟨v,h1,⟨h2,h3⟩,h4⟩:=xPg hN h;⟨v,h1,h2,h4,h3⟩
theorem wS {B:Nat→Prop} {x0:ByteArray} {x1 x2:Int} (r:Int×Bool) (hR:eV x0 x1 x2=some r) (w0:World) (hN:∀ c,B c→c<w0.heap.size) (hG:GloE w0) (hx0:x0.size≤maxLen) (hx1:xS x1) (hx2:xS x2):Calls Tryz.prog 83 #[.string x0,.int .i64 x1,.int .i64 x2] w0 (Gv (fun v w'=>∃ v1':Value,v= .tuple #[.int .i64 r.1,v1']∧Sep [] B w0 w' []∧xS r.1∧xOn v1' r.2)):=
  (wQ r hR w0 hG hx0 hx1 hx2).mono fun e w' h=>let ⟨v,h1,⟨v1,h2,h3,h5⟩,h4⟩:=xPg hN h;⟨v,h1,v1,h2,h4,h3,h5⟩
theorem xBp {B:Nat→Prop} {x0 x1:ByteArray} (r:List ByteArray) (hR:iK x0 x1=some r) (w0:World) (hN:∀ c,B c→c<w0.heap.size) (hG:Glo w0) (hx0:x0.size≤maxLen) (hx1:x1.size≤maxLen):Calls Tryz.prog 46 #[.string x0,.string x1] w0 (Gv (fun v w'=>∃ v1':Value,v=v1'∧Sep [] B w0 w' [rl 1 pZ 9 v1' r])):=
  (xBs r hR w0 hG hx0 hx1).mono fun e w' ⟨v,h1,h2,v1,rb,h3,h4⟩=>⟨v,h1,v1,h3,Row.push (Sep.start hN) h2 h4⟩
end Go.Proofs.YtfmnjkpddljdcaaGreatDoor
namespace Go.Proofs.YtfmnjkpddljdcaaGreatDoor
set_option linter.unusedVariables false
set_option linter.unusedSimpArgs false
open Go.RowKit
set_option maxRecDepth 100000
theorem layW:Lays.n166 Tryz.prog yK:={ xRy with }
theorem layR:Lays.n169 Tryz.prog yK:={ xRy with }
def Bld (B:Nat) (w:World) (b:Nat) (s:ByteArray) (Y:List Nat):Prop:=B≤w.heap.size∧B≤b∧∃ p v,(p= .pointer none∨p= .pointer (some ⟨b,0,none⟩))∧w.heap[b]?=some (.cells #[p,v] 188 (0,0)) ∧
  w.ownsRowF B 5 1 v (Lib.strCells s).length (Lib.strCells s)∧v.ownBlock≠some b∧∀ y∈Y,y≠b∧v.ownBlock≠some y
theorem Bld.is {B b:Nat} {s:ByteArray} {Y:List Nat} {w:World} (h:Bld B w b s Y):Lib.IsBuilderF 188 5 B b (Lib.strCells s) w:=by
  obtain⟨_,hb,p,v,hp | hp,h1,h2,h3,_⟩:=h
  · exact .inl ⟨hb,v,hp ▸ h1,h2,h3⟩
  · exact .inr ⟨hb,v,hp ▸ h1,h2,h3⟩
theorem Bld.of {B b:Nat} {s:ByteArray} {w:World} (h:Lib.BuilderAtF 188 5 B b (.pointer (some ⟨b,0,none⟩)) (Lib.strCells s) w) (hB:B≤w.heap.size):Bld B w b s []:=by
  obtain⟨hb,v,h1,h2,h3⟩:=h;exact⟨hB,hb,_,v,.inr rfl,h1,h2,h3,fun y hy=>absurd hy List.not_mem_nil⟩
theorem Bld.lt {B:Nat} {e:TypeId} {k:Nat} {v:Value} {xs:List Value} {w:World} (h:w.ownsRowF B e 1 v k xs):∀ g,v.ownBlock=some g→g<w.heap.size:=by
  intro g hg
  rcases h.2 with ⟨rfl,_⟩ | ⟨g',cap,cur,fz,rfl,_,hc,_⟩
  · cases hg
  · cases hg
    exact iS hc
theorem Bld.av {B b:Nat} {s:ByteArray} {Y:List Nat} {w:World} (h:Bld B w b s Y) {y:Nat} (hy:w.heap.size≤y):Bld B w b s (y::Y):=by
  obtain⟨hB,hb,p,v,hp,h1,h2,h3,h4⟩:=h;refine⟨hB,hb,p,v,hp,h1,h2,h3,fun z hz=>?_⟩
  rcases List.mem_cons.1 hz with rfl | hz
  · refine⟨fun e=>?_,fun e=>?_⟩
    · have:=iS h1
      omega
    · have:=Bld.lt h2 _ e
      omega
  · exact h4 z hz
theorem Bld.keep {B b:Nat} {s:ByteArray} {Y:List Nat} {w w':World} (h:Bld B w b s Y) (hs:w.heap.size≤w'.heap.size) (hk:∀ g,g<w.heap.size→g ∉ Y→w'.heap[g]?=w.heap[g]?):Bld B w' b s Y:=by
  obtain⟨hB,hb,p,v,hp,h1,⟨h2,ho⟩,h3,h4⟩:=h;refine⟨Nat.le_trans hB hs,hb,p,v,hp,(hk b (iS h1) (fun hy=>(h4 b hy).1 rfl)).trans h1,⟨h2,?_⟩,h3,h4⟩
  rcases ho with ⟨rfl,h0⟩ | ⟨g,cap,cur,fz,rfl,hg,hc,hr⟩
  · exact .inl ⟨rfl,h0⟩
  · exact .inr ⟨g,cap,cur,fz,rfl,hg,(hk g (iS hc) (fun hy=>(h4 g hy).2 rfl)).trans hc,hr⟩
theorem Bld.thru {B b:Nat} {s:ByteArray} {Y:List Nat} {w w':World} (h:Bld B w b s Y) (l:Below w.heap.size w w'):Bld B w' b s Y:=h.keep l.size (fun g hg _=>l.block g hg)
theorem Bld.only {B b:Nat} {s:ByteArray} {Y cs:List Nat} {w w':World} (h:Bld B w b s Y) (l:Only cs w w') (hc:∀ c∈cs,c∈Y):Bld B w' b s Y:=h.keep l.size (fun g hg hy=>l.block g hg (fun h=>hy (hc g h)))
theorem Bld.zero {B b:Nat} {w:World} (K:gM w b #[.pointer none,.slice none 0 0] 188) (hb:B≤b) (hB:B≤w.heap.size):Bld B w b (kL []) []:=
  ⟨hB,hb,_,_,.inl rfl,K,⟨rfl,.inl ⟨rfl,rfl⟩⟩,(fun h=>nomatch h),fun y hy=>absurd hy List.not_mem_nil⟩
def bw (s x:ByteArray):Option ByteArray:=if s.size+x.size≤140737488355328 then some (s++x) else none
theorem bw_sz {s x r:ByteArray} (h:bw s x=some r):r.size≤maxLen:=by
  unfold bw at h
  split at h
  · obtain rfl:=Option.some.inj h
    rw[ByteArray.size_append]
    unfold maxLen
    omega
  · cases h
theorem bldW {B b:Nat} {s x r:ByteArray} {Y:List Nat} {w:World} (h:Bld B w b s Y) (hr:bw s x=some r):Calls Tryz.prog 125 #[.pointer (some ⟨b,0,none⟩),.string x] w fun e w'=>∃ v,e= .returned v∧Below B w w'∧Bld B w' b r []:=by
  unfold bw at hr
  split at hr
  · rename_i hl
    obtain rfl:=Option.some.inj hr
    have hc:(Lib.strCells s).length=s.size:=by unfold Lib.strCells;rw[List.length_map];rfl
    refine(Any.Builder_WriteString_k layW xMr B b (Lib.strCells s) x w h.is (by omega) h.1).mono (fun e w' h'=>?_);obtain⟨he,h1,h2,_⟩:=h';refine⟨_,he,h2,Bld.of ?_ (Nat.le_trans h.1 h2.size)⟩
    have e:Lib.strCells (s++x)=Lib.strCells s++Lib.strCells x:=by simp [Lib.strCells]
    rw[e];exact h1
  · cases hr
theorem bldS {B b:Nat} {s:ByteArray} {Y:List Nat} {w:World} (h:Bld B w b s Y):Calls Tryz.prog 126 #[.pointer (some ⟨b,0,none⟩)] w fun e w'=>∃ v,e= .returned v∧Below B w w'∧v= .string s:=by
  refine(Any.Builder_String_any_k layR xMr B b s.data.toList w h.is h.1).mono (fun e w' h=>?_);obtain⟨he,_,h2,_⟩:=h;exact⟨_,he,h2,rfl⟩
section
variable {ops:Array Oper} {Q:Exit→Act→World→Prop} {a:Act} {w:World} {n:Nat} {L:List (Nat×Value)} {rest:List Oper} {d:Nat} {ty:TypeId} {pos:String} {af:Array Edge} {g:Option (Nat×Bool)}
theorem xUq {B b:Nat} {s x r:ByteArray} {Y:List Nat} {f:FuncId} {xs:List Operand} {at':Array TypeId} (F:Sk a n L) (hc:aV ops n L g d=true) (hf:∀ args w,(callFunc f args).run Tryz.prog w= .ok (.enter f args) w)
    (e:evs L xs=some [.pointer (some ⟨b,0,none⟩),.string x]) (hfn:f=125) (h:Bld B w b s Y) (hr:bw s x=some r)
    (k:∀ a' v w',Below B w w'→Bld B w' b r []→Sk a' n ((d,v)::L)→wpList Tryz.prog ops Q rest a' w') :
    wpList Tryz.prog ops Q (⟨some d,.call ⟨.value (.func f),xs.toArray,at'⟩,ty,pos,af,g⟩::rest) a w:=by
  subst hfn;exact xDi (Φ:=fun v w'=>Below B w w'∧Bld B w' b r []) F hc hf e (bldW h hr) (fun e w' ⟨v,he,h1,h2⟩=>⟨v,he,h1,h2⟩) (fun a' v w' h F'=>k a' v w' h.1 h.2 F')
theorem xUs {B b:Nat} {s:ByteArray} {Y:List Nat} {f:FuncId} {xs:List Operand} {at':Array TypeId} (F:Sk a n L) (hc:aV ops n L g d=true) (hf:∀ args w,(callFunc f args).run Tryz.prog w= .ok (.enter f args) w)
    (e:evs L xs=some [.pointer (some ⟨b,0,none⟩)]) (hfn:f=126) (h:Bld B w b s Y)
    (k:∀ a' w',Below B w w'→Sk a' n ((d,.string s)::L)→wpList Tryz.prog ops Q rest a' w') :
    wpList Tryz.prog ops Q (⟨some d,.call ⟨.value (.func f),xs.toArray,at'⟩,ty,pos,af,g⟩::rest) a w:=by
  subst hfn;exact xDi (Φ:=fun v w'=>Below B w w'∧v= .string s) F hc hf e (bldS h) (fun e w' ⟨v,he,h1,h2⟩=>⟨v,he,h1,h2⟩) (fun a' v w' h F'=>k a' w' h.1 (h.2 ▸ F'))
end
end Go.Proofs.YtfmnjkpddljdcaaGreatDoor
namespace Go.Proofs.YtfmnjkpddljdcaaGreatDoor
set_option linter.unusedVariables false
set_option linter.unusedSimpArgs false
open Go.RowKit
set_option maxRecDepth 100000
def bd (B b:Nat) (s:ByteArray):As:=
  ⟨N0,fun w Y=>Bld B w b s []∧b∈Y∧∀ p v g,w.heap[b]?=some (.cells #[p,v] 188 (0,0))→v.ownBlock=some g→g∈Y,fun h h1 _ hs=>by
    obtain⟨⟨hB,hb,p,v,hp,h3,⟨h4,ho⟩,h5,h6⟩,h7,h8⟩:=h;have e:=(h1 _ h7).trans h3;refine⟨⟨Nat.le_trans hB hs,hb,p,v,hp,e,⟨h4,?_⟩,h5,h6⟩,h7,fun p' v' g h9=>h8 p' v' g ((h1 _ h7).symm.trans h9)⟩
    rcases ho with ⟨rfl,h0⟩ | ⟨g,cap,cur,fz,rfl,hg,hc,hr⟩
    · exact .inl ⟨rfl,h0⟩
    · exact .inr ⟨g,cap,cur,fz,rfl,hg,(h1 g (h8 _ _ g h3 rfl)).trans hc,hr⟩⟩
section
variable {N:Nat→Prop} {w0 w:World} {D:List As} {b:Nat} {s:ByteArray}
theorem Sep.bd (H:Sep [] N w0 w (bx b [.pointer none,.slice none 0 0] 188::D)):Sep [] N w0 w (Go.Proofs.YtfmnjkpddljdcaaGreatDoor.bd w0.heap.size b (kL [])::D):=by
  obtain⟨Y,h1,h2⟩:=H.ex;refine⟨H.fr,H.nb,Y,fun i A hi=>?_,h2⟩
  cases i with
  | zero=>
    cases hi
    obtain⟨⟨h3,h4⟩,_,h5⟩:=h1 0 _ rfl;have h6:=h5 b h4;refine⟨⟨Bld.zero h3 (h6.2.elim (fun h=>nomatch h) id) H.fr.size,h4,fun p v g h7 h8=>?_⟩,n0,h5⟩;have h9:w.heap[b]?=some (.cells #[.pointer none,.slice none 0 0] 188 (0,0)):=h3;rw[h7] at h9
    cases h9
    cases h8
  | succ i=>exact h1 (i+1) A hi
theorem Sep.bld (H:Sep [] N w0 w [Go.Proofs.YtfmnjkpddljdcaaGreatDoor.bd w0.heap.size b s]):Bld w0.heap.size w b s []:=let ⟨_,h1,_⟩:=H.ex;(h1 0 _ rfl).1.1
theorem Sep.bd2 {w':World} {r:ByteArray} (H:Sep [] N w0 w [Go.Proofs.YtfmnjkpddljdcaaGreatDoor.bd w0.heap.size b s]) (l:Below w0.heap.size w w') (h:Bld w0.heap.size w' b r []):Sep [] N w0 w' [Go.Proofs.YtfmnjkpddljdcaaGreatDoor.bd w0.heap.size b r]:=by
  have h':=h;obtain⟨hB,hb,p,v,hp,h3,h4,h5,h6⟩:=h;refine⟨Only.of_below (H.bl.trans l),H.nb,fun _=>b::v.ownBlock.toList,fun i A hi=>?_,fun i j hi hj hij=>by simp at hi hj;omega⟩
  cases i with
  | succ i=>cases hi
  | zero=>
    cases hi
    refine⟨⟨h',by simp,fun p' v' g h7 h8=>?_⟩,n0,fun c hc=>?_⟩
    · rw[h3] at h7
      cases h7
      simp [h8]
    · rcases List.mem_cons.1 hc with rfl | hc
      · exact⟨iS h3,.inr hb⟩
      · have hg:v.ownBlock=some c:=by simpa using hc
        refine⟨Bld.lt h4 c hg,.inr ?_⟩
        rcases h4.2 with ⟨rfl,_⟩ | ⟨g,cap,cur,fz,rfl,hg',_,_⟩
        · cases hg
        · cases hg;exact hg'
variable {ops:Array Oper} {Q:Exit→Act→World→Prop} {a:Act} {n:Nat} {L:List (Nat×Value)} {rest:List Oper} {d:Nat} {ty:TypeId} {pos:String} {af:Array Edge} {g:Option (Nat×Bool)}
theorem oBw {x r:ByteArray} {f:FuncId} {xs:List Operand} {at':Array TypeId} (F:Sk a n L) (hc:aV ops n L g d=true) (hf:∀ args w,(callFunc f args).run Tryz.prog w= .ok (.enter f args) w)
    (e:evs L xs=some [.pointer (some ⟨b,0,none⟩),.string x]) (hfn:f=125) (H:Sep [] N w0 w [Go.Proofs.YtfmnjkpddljdcaaGreatDoor.bd w0.heap.size b s]) (hr:bw s x=some r)
    (k:∀ a' v w',Sep [] N w0 w' [Go.Proofs.YtfmnjkpddljdcaaGreatDoor.bd w0.heap.size b r]→Sk a' n ((d,v)::L)→wpList Tryz.prog ops Q rest a' w') :
    wpList Tryz.prog ops Q (⟨some d,.call ⟨.value (.func f),xs.toArray,at'⟩,ty,pos,af,g⟩::rest) a w:=
  xUq F hc hf e hfn H.bld hr (fun a' v w' l h F'=>k a' v w' (H.bd2 l h) F')
theorem oBs {f:FuncId} {xs:List Operand} {at':Array TypeId} (F:Sk a n L) (hc:aV ops n L g d=true) (hf:∀ args w,(callFunc f args).run Tryz.prog w= .ok (.enter f args) w)
    (e:evs L xs=some [.pointer (some ⟨b,0,none⟩)]) (hfn:f=126) (H:Sep [] N w0 w [Go.Proofs.YtfmnjkpddljdcaaGreatDoor.bd w0.heap.size b s])
    (k:∀ a' w',Sep [] N w0 w' []→Sk a' n ((d,.string s)::L)→wpList Tryz.prog ops Q rest a' w') :
    wpList Tryz.prog ops Q (⟨some d,.call ⟨.value (.func f),xs.toArray,at'⟩,ty,pos,af,g⟩::rest) a w:=
  xUs F hc hf e hfn H.bld (fun a' w' l F'=>k a' w' ⟨Only.of_below (H.bl.trans l),H.nb,fun _=>[],fun i A h=>(by cases i<;>cases h),fun i j h=>absurd h (Nat.not_lt_zero _)⟩ F')
end
end Go.Proofs.YtfmnjkpddljdcaaGreatDoor
