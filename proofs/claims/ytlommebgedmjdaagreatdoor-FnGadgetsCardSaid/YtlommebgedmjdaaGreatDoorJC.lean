import Derived.Test.YtlommebgedmjdaaGreatDoorJB
namespace Go.Proofs.YtlommebgedmjdaaGreatDoor
set_option linter.unusedVariables false
set_option linter.unusedSimpArgs false
open Go.RowKit
theorem e2 {α β:Type} {a:α} {b:β}:a=a∧b=b:=⟨rfl,rfl⟩
theorem e3 {α β γ:Type} {a:α} {b:β} {c:γ}:a=a∧b=b∧c=c:=⟨rfl,rfl,rfl⟩
theorem e5 {α β γ δ ε:Type} {a:α} {b:β} {c:γ} {d:δ} {e:ε}:a=a∧b=b∧c=c∧d=d∧e=e:=⟨rfl,rfl,rfl,rfl,rfl⟩
class BdT (P:Program) (t:TypeId) (fs:outParam (Array Field)) (z:outParam Value) (places:outParam (Array (Nat×Nat))):Prop where
  u:P.underlying t=some (.struct fs)
  z:∀ w,(zeroValue t).run P w= .ok z w
  p:∀ w,(fs.mapM fun f=>do pure (f.offset,← sizeOf f.type):Sem (Array (Nat×Nat))).run P w= .ok places w
class Len {α:Type} (l:List α) (k:outParam Nat):Prop where
  h:l.length=k
instance {α:Type}:Len ([]:List α) 0:=⟨rfl⟩
instance {α:Type} {x:α} {l:List α} {k:Nat} [h:Len l k]:Len (x::l) (k+1):=⟨by rw[List.length_cons,h.h]⟩
section
variable {P:Program} {ops:Array Oper} {Q Q':Exit→Act→World→Prop} {fn:Func} {n:Nat} {X X':List Nat} {N N' M N1 Mv:Nat→Prop} {w0 w w1:World} {L L':List (Nat×Value)} {D D' D0:List As} {A B:As} {ρ σ τ:Type} {tt:Option ρ} {CC:ρ→Prop} {G G' K:Act→World→Prop} {R:Ending→World→Prop} {l l' rest:List Oper} {d f:Nat} {ls:Array Bool} {ty:TypeId} {pos:String} {af:Array Edge} {g:Option (Nat×Bool)}
theorem jb (i:Nat) {x:Operand} {t:TypeId} {b o:Nat} {v:Value} {cs:List Value} {T:TypeId} [hag:Ag P t false] (hh:D[i]?=some (bx b cs T)∧ev L x=some (.pointer (some ⟨b,o,none⟩))∧cs[o]?=some v)
    (kt:J n X N w0 ((d,v)::L) D tt CC (wpList P ops Q rest)) (hc:qH ops n L g d=true:=by rfl):J n X N w0 L D tt CC (wpList P ops Q (⟨some d,.load t x,ty,pos,af,g⟩::rest)):=⟨fun a w F H xq h1 h2=>
  oB hag.h F hc hh.2.1 (H.b i hh.1) hh.2.2 (fun a' F'=>kt.h a' w F' H xq h1 h2)⟩
theorem zY (i:Nat) {x:Operand} {t:TypeId} {b o sz:Nat} {cs vs:List Value} {T:TypeId} [hag:Ag P t true] [hsz:Sz P t sz] (hh:D[i]?=some (bx b cs T)∧ev L x=some (.pointer (some ⟨b,o,none⟩))∧(cs.drop o).take sz=vs)
    (kt:J n X N w0 ((d,.agg vs.toArray)::L) D tt CC (wpList P ops Q rest)) (hl:vs.length=sz:=by rfl) (hc:qH ops n L g d=true:=by rfl):J n X N w0 L D tt CC (wpList P ops Q (⟨some d,.load t x,ty,pos,af,g⟩::rest)):=⟨fun a w F H xq h1 h2=>
  oBA hag.h hsz.h F hc hh.2.1 (H.b i hh.1) hh.2.2 hl (fun a' F'=>kt.h a' w F' H xq h1 h2)⟩
theorem jbK {x:Operand} {t:TypeId} {b o:Nat} {v:Value} {cs:List Value} {T:TypeId} [hag:Ag P t false] (hK:Bk N w0 b cs T) (hh:ev L x=some (.pointer (some ⟨b,o,none⟩))∧cs[o]?=some v)
    (kt:J n X N w0 ((d,v)::L) D tt CC (wpList P ops Q rest)) (hc:qH ops n L g d=true:=by rfl):J n X N w0 L D tt CC (wpList P ops Q (⟨some d,.load t x,ty,pos,af,g⟩::rest)):=⟨fun a w F H xq h1 h2=>
  oB hag.h F hc hh.1 (hK.o H.sm) hh.2 (fun a' F'=>kt.h a' w F' H xq h1 h2)⟩
theorem xPv {x:Operand} {t:TypeId} {b o sz:Nat} {cs vs:List Value} {T:TypeId} [hag:Ag P t true] [hsz:Sz P t sz] (hK:Bk N w0 b cs T) (hh:ev L x=some (.pointer (some ⟨b,o,none⟩))∧(cs.drop o).take sz=vs)
    (kt:J n X N w0 ((d,.agg vs.toArray)::L) D tt CC (wpList P ops Q rest)) (hl:vs.length=sz:=by rfl) (hc:qH ops n L g d=true:=by rfl):J n X N w0 L D tt CC (wpList P ops Q (⟨some d,.load t x,ty,pos,af,g⟩::rest)):=⟨fun a w F H xq h1 h2=>
  oBA hag.h hsz.h F hc hh.1 (hK.o H.sm) hh.2 hl (fun a' F'=>kt.h a' w F' H xq h1 h2)⟩
theorem jX1 {x:Operand} {T:TypeId} {v:Value} (he:ev L x=some v) (hone:∀ {w},Sep X N w0 w D→v.oneCell'=true) (kt:∀ b,J n X N w0 ((d,.pointer (some ⟨b,0,none⟩))::L) (bx b [v] T::D) tt CC (wpList P ops Q rest)) (hc:qH ops n L g d=true:=by rfl) :
    J n X N w0 L D tt CC (wpList P ops Q (⟨some d,.box T x,ty,pos,af,g⟩::rest)):=⟨fun a w F H xq h1 h2=>oX F hc he (xIc (hone H)) H (fun a' w' b H' F'=>(kt b).h a' w' F' H' xq h1 h2)⟩
theorem qT {t:TypeId} {fs:Array Field} {z:Value} {places:Array (Nat×Nat)} {parts:Array (Nat×Operand)} {ps:List (Nat×Operand)} {idx:List Nat} {xs:List Operand} {vs:List Value} {cs:Array Value} [hb:BdT P t fs z places] (hh:parts.toList=ps∧ps.map Prod.fst=idx∧ps.map Prod.snd=xs∧evs L xs=some vs∧(idx.zip vs).foldl (fun cs p=>cs.setIfInBounds p.1 p.2) z.cells=cs)
    (kt:J n X N w0 ((d,.agg cs)::L) D tt CC (wpList P ops Q rest)) (hc:qH ops n L g d=true:=by rfl) (hone:∀ {w},Sep X N w0 w D→∀ v∈vs,v.oneCell'=true:=by intro _ _;repeat (first | exact on | refine oc rfl ?_)) (hok:idx.all (fun i=>places[i]?==some (i,1) && decide (i<z.cells.size))=true:=by rfl) :
    J n X N w0 L D tt CC (wpList P ops Q (⟨some d,.build t parts,ty,pos,af,g⟩::rest)):=⟨fun a w F H xq h1 h2=>
  xXa hb.u hb.z hb.p F hc hh.1 hh.2.1 hh.2.2.1 hh.2.2.2.1 (hone H) hok hh.2.2.2.2 (fun a' F'=>kt.h a' w F' H xq h1 h2)⟩
theorem jQ [hm:Mo P] {id:Nat} (kt:J n X N w0 L D tt CC (Gq P l.toArray X N w0 D (Q .normal) l)) (hlex:Region.lexB .any l.toArray=true:=by kernel_rfl):J n X N w0 L D tt CC ((Code.region id l.toArray true).wp P Q):=⟨fun a w F H xq h1 h2=>
  xQ H hm.h hlex (kt.h a w F H xq h1 h2)⟩
theorem iS (kt:J n X N w0 L D tt CC K):J n X N w0 L D tt CC (Gq P ops X N w0 D K []):=⟨fun a w F H xq h1 h2=>oCi (fun w' H'=>kt.h a w' F H' xq h1 h2)⟩
theorem jqv {op:Go.Op} {v:Value} (hr:∀ {a w},Sk a n L→Sep X N w0 w D→∀ w',Below w.heap.size w w'→(execOp a.eval ⟨some d,op,ty,pos,af,g⟩).run P w'= .ok (.value v) w') (kt:J n X N w0 ((d,v)::L) D tt CC (Gq P ops X N w0 D K rest)) (hc:qH ops n L g d=true:=by rfl) :
    J n X N w0 L D tt CC (Gq P ops X N w0 D K (⟨some d,op,ty,pos,af,g⟩::rest)):=⟨fun a w F H xq h1 h2=>lT F hc (hr F H) (fun a' F'=>kt.h a' w F' H xq h1 h2)⟩
theorem xRs {C:World→Prop} {K:Act→Prop}:∀ (k:Nat) {a:Act} {L:List (Nat×Value)} {l:List Oper} (F:Sk a n L) (h:xBq ops n k L l=some (L',l')) (c:∀ a',Sk a' n L'→wpQuiet P ops C K l' a'),wpQuiet P ops C K l a
  | 0,a,L,l,F,h,c=>by
    obtain⟨rfl,rfl⟩:=Prod.mk.inj (Option.some.inj h);exact c a F
  | k+1,a,L,[],F,h,c=>by cases h
  | k+1,a,L,⟨some d,op,ty,pos,af,g⟩::l,F,h,c=>by
    change (match qH ops n L g d with | true=>(match pv L op with | some v=>xBq ops n k ((d,v)::L) l | none=>none) | false=>(match gno ops L g && Nat.blt d n with | true=>xBq ops n k ((d,undef)::L) l | false=>none))=_ at h
    split at h
    · rename_i h1
      split at h
      · rename_i v h2
        exact lT F h1 (fun w _=>xZh F h2) (fun a F=>xRs k F h c)
      · cases h
    · split at h
      · rename_i h2
        rw[Bool.and_eq_true] at h2;exact q_no F h2.1 h2.2 (fun a F=>xRs k F h c)
      · cases h
  | k+1,a,L,⟨none,op,ty,pos,af,g⟩::l,F,h,c=>by
    change (match gno ops L g with | true=>xBq ops n k L l | false=>none)=_ at h
    split at h
    · rename_i h1
      unfold wpQuiet
      rw[if_neg (by rw[pL F (o:=⟨none,op,ty,pos,af,g⟩) h1];exact Bool.false_ne_true)];have:a.put none undef=a:=rfl
      first | exact xRs k F h c | (simp only[this];exact xRs k F h c)
    · cases h
theorem qR (k:Nat) (e:xBq ops n k L l=some (L',l')) (kt:J n X N w0 L' D tt CC (Gq P ops X N w0 D K l')):J n X N w0 L D tt CC (Gq P ops X N w0 D K l):=⟨fun a w F H xq h1 h2=>xRs k F e (fun a' F'=>kt.h a' w F' H xq h1 h2)⟩
theorem jqb (i:Nat) {x:Operand} {t:TypeId} {b o:Nat} {v:Value} {cs:List Value} {T:TypeId} [hag:Ag P t false] (hh:D[i]?=some (bx b cs T)∧ev L x=some (.pointer (some ⟨b,o,none⟩))∧cs[o]?=some v)
    (kt:J n X N w0 ((d,v)::L) D tt CC (Gq P ops X N w0 D K rest)) (hc:qH ops n L g d=true:=by rfl):J n X N w0 L D tt CC (Gq P ops X N w0 D K (⟨some d,.load t x,ty,pos,af,g⟩::rest)):=⟨fun a w F H xq h1 h2=>
  qB hag.h F hc hh.2.1 (H.qb i hh.1) hh.2.2 (fun a' F'=>kt.h a' w F' H xq h1 h2)⟩
theorem xWb (i:Nat) {x:Operand} {t:TypeId} {b o sz:Nat} {cs vs:List Value} {T:TypeId} [hag:Ag P t true] [hsz:Sz P t sz] (hh:D[i]?=some (bx b cs T)∧ev L x=some (.pointer (some ⟨b,o,none⟩))∧(cs.drop o).take sz=vs)
    (kt:J n X N w0 ((d,.agg vs.toArray)::L) D tt CC (Gq P ops X N w0 D K rest)) (hl:vs.length=sz:=by rfl) (hc:qH ops n L g d=true:=by rfl):J n X N w0 L D tt CC (Gq P ops X N w0 D K (⟨some d,.load t x,ty,pos,af,g⟩::rest)):=⟨fun a w F H xq h1 h2=>
  qBA hag.h hsz.h F hc hh.2.1 (H.qb i hh.1) hh.2.2 hl (fun a' F'=>kt.h a' w F' H xq h1 h2)⟩
theorem nV {x:Operand} {t:TypeId} {kk b o o' off:Nat} [hp:Fd P t kk off] (hh:ev L x=some (.pointer (some ⟨b,o,none⟩))∧o+off=o') (kt:J n X N w0 ((d,.pointer (some ⟨b,o',none⟩))::L) D tt CC (Gq P ops X N w0 D K rest)) (hc:qH ops n L g d=true:=by rfl) :
    J n X N w0 L D tt CC (Gq P ops X N w0 D K (⟨some d,.fieldAddr t x kk,ty,pos,af,g⟩::rest)):=jqv (fun F H w l=>xAl hp.h F hh.1 hh.2) kt hc
theorem jD [hm:Mo P] {id k:Nat} [hk:Len l k] (kt:J n X N w0 L D tt CC (zV P l.toArray (Q .normal) (Sm N) k (Array.replicate l.length false))):J n X N w0 L D tt CC ((Code.region id l.toArray true).wp P Q):=⟨fun a w F H xq h1 h2=>
  xD H hm.h (fun w' H'=>hk.h.symm ▸ kt.h a w' F H' xq h1 h2)⟩
theorem jbe {Kr:World→World→Prop} (kt:J n X N w0 L D tt CC K) (hr:Region.ready .any ops ls=[]:=by kernel_rfl):J n X N w0 L D tt CC (zV P ops K Kr 0 ls):=⟨fun a w F H xq h1 h2=>xXj hr (kt.h a w F H xq h1 h2)⟩
theorem jvv (ii:Nat) {op:Go.Op} {v:Value} (hii:ops[ii]?=some ⟨some d,op,ty,pos,af,g⟩) (hr:∀ {a w},Sk a n L→Sep X N w0 w D→∀ w',Sm Mv w w'→(execOp a.eval ⟨some d,op,ty,pos,af,g⟩).run P w'= .ok (.value v) w') (kt:J n X N w0 ((d,v)::L) D tt CC (zV P ops K (Sm Mv) f (ls.setIfInBounds ii true)))
    (hc:qH ops n L g d=true:=by rfl) (hb:bqc ops ls ii true=true:=by kernel_rfl):J n X N w0 L D tt CC (zV P ops K (Sm Mv) (f+1) ls):=⟨fun a w F H xq h1 h2=>bq hb hii (gP F hc (hr F H) (fun a' F'=>kt.h a' w F' H xq h1 h2))⟩
theorem jvb (ii:Nat) {x:Operand} {t:TypeId} {b o:Nat} {v:Value} {cs:List Value} {T:TypeId} (hii:ops[ii]?=some ⟨some d,.load t x,ty,pos,af,g⟩) [hag:Ag P t false] (hK:Bk Mv w1 b cs T) (hh:ev L x=some (.pointer (some ⟨b,o,none⟩))∧cs[o]?=some v)
    (kt:J n X N w0 ((d,v)::L) D tt CC (zV P ops K (Sm Mv) f (ls.setIfInBounds ii true))) (s:∀ {w},Sep X N w0 w D→Sm Mv w1 w:=by exact Sep.sm) (hc:qH ops n L g d=true:=by rfl) (hb:bqc ops ls ii true=true:=by kernel_rfl):J n X N w0 L D tt CC (zV P ops K (Sm Mv) (f+1) ls):=⟨fun a w F H xq h1 h2=>
  bq hb hii (vB hag.h F hc hh.1 (hK.v (s H)) hh.2 (fun a' F'=>kt.h a' w F' H xq h1 h2))⟩
theorem wD (ii:Nat) {x:Operand} {t:TypeId} {b o sz:Nat} {cs vs:List Value} {T:TypeId} (hii:ops[ii]?=some ⟨some d,.load t x,ty,pos,af,g⟩) [hag:Ag P t true] [hsz:Sz P t sz] (hK:Bk Mv w1 b cs T) (hh:ev L x=some (.pointer (some ⟨b,o,none⟩))∧(cs.drop o).take sz=vs)
    (kt:J n X N w0 ((d,.agg vs.toArray)::L) D tt CC (zV P ops K (Sm Mv) f (ls.setIfInBounds ii true))) (s:∀ {w},Sep X N w0 w D→Sm Mv w1 w:=by exact Sep.sm) (hl:vs.length=sz:=by rfl) (hc:qH ops n L g d=true:=by rfl) (hb:bqc ops ls ii true=true:=by kernel_rfl):J n X N w0 L D tt CC (zV P ops K (Sm Mv) (f+1) ls):=⟨fun a w F H xq h1 h2=>
  bq hb hii (vBA hag.h hsz.h F hc hh.1 (hK.v (s H)) hh.2 hl (fun a' F'=>kt.h a' w F' H xq h1 h2))⟩
theorem fZ (ii:Nat) {x:Operand} {t:TypeId} {kk b o o' off:Nat} (hii:ops[ii]?=some ⟨some d,.fieldAddr t x kk,ty,pos,af,g⟩) [hp:Fd P t kk off] (hh:ev L x=some (.pointer (some ⟨b,o,none⟩))∧o+off=o') (kt:J n X N w0 ((d,.pointer (some ⟨b,o',none⟩))::L) D tt CC (zV P ops K (Sm Mv) f (ls.setIfInBounds ii true)))
    (hc:qH ops n L g d=true:=by rfl) (hb:bqc ops ls ii true=true:=by kernel_rfl):J n X N w0 L D tt CC (zV P ops K (Sm Mv) (f+1) ls):=jvv ii hii (fun F H w l=>xAl hp.h F hh.1 hh.2) kt hc hb
def xTv (ops:Array Oper) (n:Nat):List Nat→List (Nat×Value)→Option (List (Nat×Value))
  | [],L=>some L
  | i::is,L=>match ops[i]? with
    | some ⟨some d,op,_,_,_,g⟩=>match qH ops n L g d with
      | true=>match pv L op with
        | some v=>xTv ops n is ((d,v)::L)
        | none=>none
      | false=>match gno ops L g && Nat.blt d n with
        | true=>xTv ops n is ((d,undef)::L)
        | false=>none
    | _=>none
def xYr (ls:Array Bool):List Nat→Array Bool
  | []=>ls
  | i::is=>xYr (ls.setIfInBounds i true) is
def xWe (ops:Array Oper):Array Bool→List Nat→Bool
  | _,[]=>true
  | ls,i::is=>bqc ops ls i (!cOp ops i) && xWe ops (ls.setIfInBounds i true) is
def oAi:List Nat→Nat→Nat
  | [],f=>f
  | _::is,f=>oAi is f+1
theorem bqz {a:Act} {i:Nat} {oi:Oper} {C:World→Prop} (hb:bqc ops ls i (!cOp ops i)=true) (hi:ops[i]?=some oi) (h:∀ C:World→Prop,wpV P ops C (fun a'=>zV P ops K (Sm Mv) f (ls.setIfInBounds i true) a' w) oi a):zV P ops K (Sm Mv) (f+1) ls a w:=by
  cases hz : !cOp ops i with
  | true=>rw[hz] at hb;exact bq hb hi (h _)
  | false=>rw[hz] at hb;exact bz hb hi (h _)
theorem xUa {f:Nat}:∀ (is:List Nat) {a:Act} {L:List (Nat×Value)} {ls:Array Bool} (F:Sk a n L) (h:xTv ops n is L=some L') (hb:xWe ops ls is=true) (c:∀ a',Sk a' n L'→zV P ops K (Sm Mv) f (xYr ls is) a' w),zV P ops K (Sm Mv) (oAi is f) ls a w
  | [],a,L,ls,F,h,hb,c=>by
    obtain rfl:=Option.some.inj h;exact c a F
  | i::is,a,L,ls,F,h,hb,c=>by
    unfold xWe at hb
    rw[Bool.and_eq_true] at hb
    unfold xTv at h
    split at h
    · rename_i d op ty pos af g hi
      split at h
      · rename_i h1
        split at h
        · rename_i v h2
          exact bqz (C:=fun _=>True) hb.1 hi (fun C=>gP F h1 (fun w _=>xZh F h2) (fun a F=>xUa is F h hb.2 c))
        · cases h
      · split at h
        · rename_i h2
          rw[Bool.and_eq_true] at h2;exact bqz (C:=fun _=>True) hb.1 hi (fun C=>v_no F h2.1 h2.2 (fun a F=>xUa is F h hb.2 c))
        · cases h
    · cases h
theorem jvA (is:List Nat) (e:xTv ops n is L=some L') (kt:J n X N w0 L' D tt CC (zV P ops K (Sm Mv) f (xYr ls is))) (hb:xWe ops ls is=true:=by kernel_rfl):J n X N w0 L D tt CC (zV P ops K (Sm Mv) (oAi is f) ls):=⟨fun a w F H xq h1 h2=>
  xUa is F e hb (fun a' F'=>kt.h a' w F' H xq h1 h2)⟩
theorem jE (ii:Nat) {oi:Oper} (hi:ops[ii]?=some oi) (kt:J n X N w0 L D tt CC (wpList P ops (Exit.then (fun a' w'=>(∃ D',Sep X N w0 w' D')∧zV P ops K (Sm N) f (ls.setIfInBounds ii true) a' w') QF) [oi])) (hr:Region.ready .any ops ls=[ii]:=by kernel_rfl) :
    J n X N w0 L D tt CC (zV P ops K (Sm N) (f+1) ls):=⟨fun a w F H xq h1 h2=>xE H ii hi hr (kt.h a w F H xq h1 h2)⟩
theorem jEt (th:∀ {w},Sep X' N' w1 w D→Sep X N w0 w D0) (ii:Nat) {oi:Oper} (hi:ops[ii]?=some oi) (kt:J n X' N' w1 L D tt CC (wpList P ops (Exit.then (fun a' w'=>(∃ D',Sep X N w0 w' D')∧zV P ops K (Sm N) f (ls.setIfInBounds ii true) a' w') QF) [oi])) (hr:Region.ready .any ops ls=[ii]:=by kernel_rfl) :
    J n X' N' w1 L D tt CC (zV P ops K (Sm N) (f+1) ls):=⟨fun a w F H xq h1 h2=>xE (th H) ii hi hr (kt.h a w F H xq h1 h2)⟩
theorem kK (kt:J n X N w0 L D tt CC K):J n X N w0 L D tt CC (wpList P ops (Exit.then (fun a' w'=>(∃ D',Sep X N w0 w' D')∧K a' w') QF) []):=⟨fun a w F H xq h1 h2=>⟨⟨_,H⟩,kt.h a w F H xq h1 h2⟩⟩
theorem nC (th:∀ {w},Sep X' N' w1 w D→Sep X N w0 w D0) (kt:J n X' N' w1 L D tt CC K):J n X' N' w1 L D tt CC (wpList P ops (Exit.then (fun a' w'=>(∃ D',Sep X N w0 w' D')∧K a' w') QF) []):=⟨fun a w F H xq h1 h2=>⟨⟨_,th H⟩,kt.h a w F H xq h1 h2⟩⟩
theorem jV (th:∀ {w},Sep X' N' w1 w D→Sep X N w0 w D0) (i1 i2:Nat) {o1 o2:Oper} (hi1:ops[i1]?=some o1) (hi2:ops[i2]?=some o2)
    (k1:J n X' N' w1 L D tt CC (wpList P ops (Exit.then (fun a' w'=>(∃ D',Sep X N w0 w' D')∧zV P ops K (Sm N) f (ls.setIfInBounds i1 true) a' w') QF) [o1]))
    (k2:J n X' N' w1 L D tt CC (wpList P ops (Exit.then (fun a' w'=>(∃ D',Sep X N w0 w' D')∧zV P ops K (Sm N) f (ls.setIfInBounds i2 true) a' w') QF) [o2]))
    (hr:Region.ready .any ops ls=[i1,i2]:=by kernel_rfl):J n X' N' w1 L D tt CC (zV P ops K (Sm N) (f+1) ls):=⟨fun a w F H xq h1 h2=>
  b_es [i1,i2] hr (by simp) ⟨⟨_,hi1,xEs (th H) (k1.h a w F H xq h1 h2)⟩,⟨_,hi2,xEs (th H) (k2.h a w F H xq h1 h2)⟩,trivial⟩⟩
theorem jdp {f f':Nat} {ls ls0:Array Bool} (I:Tl (List (Nat×Value)) (List As)) (h:I.all fun S E=>J n X N w0 S E tt CC (zV P ops K (Sm M) f ls))
    (k:(∀ {L D ls'},(I.any fun S E=>Ls L S E D)→(hl:ls'=ls:=by kernel_rfl)→J n X N w0 L D tt CC (zV P ops K (Sm M) f ls'))→J n X N w0 L D tt CC (zV P ops K (Sm M) f' ls0)):J n X N w0 L D tt CC (zV P ops K (Sm M) f' ls0):=
  k (fun {L D ls'} hi hl=>⟨fun a w F H xq h1 h2=>hl ▸ hi.go h (fun S E hs hJ=>hJ.h a w (F.sub hs.2) (hs.1 ▸ H) xq h1 h2)⟩)
theorem Sep.gt {f:List As→List As} {w':World} (H:Sep X N w0 w D) (S:Sep [] M w w' (f [])) (hf:∀ D,f D=f []++D) (hs:Ns N (f [])):Sep X N w0 w' (f D):=by
  rw[hf D];exact H.ret S hs.all
theorem Gt.gv {I:Tl Value (List As→List As)} {e:Ending} {w':World} (h:Gt M w X I e w'):Gv (fun v w'=>I.any fun u h=>v=u∧Sep X M w w' (h [])∧∀ D,h D=h []++D) e w':=by
  cases e with
  | returned v=>exact⟨v,rfl,h.map (fun u f h=>⟨by injection h.1,h.2⟩)⟩
  | _=>obtain⟨x,y,h⟩:=h.some;exact nomatch h.1
theorem jk {fi:FuncId} {xs:List Operand} {at':Array TypeId} {vs:List Value} {M:World→Nat→Prop} {I:Tl Value (List As→List As)} [hf:Cf P fi] (cl:∀ {w},Sep X N w0 w D→Calls P fi vs.toArray w (Gt (M w) w [] I)) (kt:I.all fun v h=>J n X N w0 ((d,v)::L) (h D) tt CC (wpList P ops Q rest))
    (hc:qH ops n L g d=true:=by rfl) (e:evs L xs=some vs:=by rfl) (hs:I.all fun v h=>Ns N (h []):=by repeat (first | exact trivial | refine⟨n0,?_⟩ | refine⟨n1,?_⟩ | intro)) :
    J n X N w0 L D tt CC (wpList P ops Q (⟨some d,.call ⟨.value (.func fi),xs.toArray,at'⟩,ty,pos,af,g⟩::rest)):=⟨fun a w F H xq h1 h2=>
  oG F hc hf.h e ((cl H).mono (fun e w' h=>h.gv)) (fun a' v w' hv F'=>hv.go (hs.and kt) (fun u f hu hj=>by
    obtain⟨rfl,S,hf'⟩:=hu
    exact hj.2.h a' w' F' (H.gt S hf' hj.1) xq h1 h2))⟩
theorem jkV {c:Operand} {fi:FuncId} {lb:List Value} {xs:List Operand} {at':Array TypeId} {vs:List Value} {M:World→Nat→Prop} {I:Tl Value (List As→List As)} (hf:∀ args w,(callFunc fi args).run P w= .ok (.enter fi args) w) (hh:ev L c=some (.func (.func fi) #[] lb.toArray)∧evs L xs=some vs) (cl:∀ {w},Sep X N w0 w D→Calls P fi (vs++lb).toArray w (Gt (M w) w [] I)) (kt:I.all fun v h=>J n X N w0 ((d,v)::L) (h D) tt CC (wpList P ops Q rest))
    (hc:qH ops n L g d=true:=by rfl) (hs:I.all fun v h=>Ns N (h []):=by repeat (first | exact trivial | refine⟨n0,?_⟩ | refine⟨n1,?_⟩ | intro)) :
    J n X N w0 L D tt CC (wpList P ops Q (⟨some d,.call ⟨.value c,xs.toArray,at'⟩,ty,pos,af,g⟩::rest)):=⟨fun a w F H xq h1 h2=>
  oGV F hc hh.1 hf hh.2 ((cl H).mono (fun e w' h=>h.gv)) (fun a' v w' hv F'=>hv.go (hs.and kt) (fun u f hu hj=>by
    obtain⟨rfl,S,hf'⟩:=hu
    exact hj.2.h a' w' F' (H.gt S hf' hj.1) xq h1 h2))⟩
def Tl.le {α β:Type}:Tl α β→Tl α β→Prop
  | .ex (γ:=γ) f,.ex (γ:=δ) g=>∃ h:γ=δ,∀ b,(f b).le (g (h ▸ b))
  | .fa p i,.fa q j=>(p→q)∧i.le j
  | .st x y,.st x' y'=>x=x'∧y=y'
  | _,_=>False
theorem Tl.any.le {α β:Type} {K:α→β→Prop}:∀ {i j:Tl α β},i.any K→i.le j→j.any K
  | .ex f,.ex g,⟨b,h⟩,⟨e,l⟩=>by subst e;exact⟨b,Tl.any.le h (l b)⟩
  | .fa _ _,.fa _ _,⟨p,h⟩,⟨l,m⟩=>⟨l p,Tl.any.le h m⟩
  | .st _ _,.st _ _,h,l=>by obtain⟨rfl,rfl⟩:=l;exact h
theorem jkB {fi:FuncId} {xs:List Operand} {at':Array TypeId} {vs:List Value} {I:World→Tl Value (List As→List As)} [hf:Cf P fi] (cl:∀ {w},Sep X N w0 w D→Calls P fi vs.toArray w (Gt N w [] (I w))) (kt:(I w0).all fun v h=>J n X N w0 ((d,v)::L) (h D) tt CC (wpList P ops Q rest))
    (hc:qH ops n L g d=true:=by rfl) (e:evs L xs=some vs:=by rfl) (hs:(I w0).all fun v h=>Ns N (h []):=by repeat (first | exact trivial | refine⟨n0,?_⟩ | refine⟨n1,?_⟩ | intro))
    (hd:∀ {w},Sep X N w0 w D→(I w).le (I w0):=by intro _ H;repeat (first | exact⟨rfl,rfl⟩ | refine⟨rfl,fun _=>?_⟩ | refine⟨fun h=>H.dn h,?_⟩ | refine⟨id,?_⟩)) :
    J n X N w0 L D tt CC (wpList P ops Q (⟨some d,.call ⟨.value (.func fi),xs.toArray,at'⟩,ty,pos,af,g⟩::rest)):=⟨fun a w F H xq h1 h2=>
  oG F hc hf.h e ((cl H).mono (fun e w' h=>h.gv)) (fun a' v w' hv F'=>(hv.le (hd H)).go (hs.and kt) (fun u f hu hj=>by
    obtain⟨rfl,S,hf'⟩:=hu
    exact hj.2.h a' w' F' (H.gt S hf' hj.1) xq h1 h2))⟩
class Spl (m:Nat) (D:List As) (K E:outParam (List As)):Prop where
  h:D=K++E
instance {D:List As}:Spl 0 D [] D:=⟨rfl⟩
instance {m:Nat} {A:As} {D K E:List As} [h:Spl m D K E]:Spl (m+1) (A::D) (A::K) E:=⟨by rw[h.h,List.cons_append]⟩
theorem jko (m:Nat) {fi:FuncId} {xs:List Operand} {at':Array TypeId} {vs:List Value} {Kd E:List As} {I:Tl Value (List As→List As)} [hf:Cf P fi] [hm:Spl m D Kd E] (cl:∀ {w X1},Sep X1 N w w Kd→Sep X N w0 w D→Calls P fi vs.toArray w (Gt N w X1 I)) (kt:I.all fun v h=>J n X N w0 ((d,v)::L) (h E) tt CC (wpList P ops Q rest))
    (hc:qH ops n L g d=true:=by rfl) (e:evs L xs=some vs:=by rfl) :
    J n X N w0 L D tt CC (wpList P ops Q (⟨some d,.call ⟨.value (.func fi),xs.toArray,at'⟩,ty,pos,af,g⟩::rest)):=⟨fun a w F H xq h1 h2=>by
  obtain⟨X1,S1,bk⟩:=Sep.lend (K:=Kd) (L:=E) (hm.h ▸ H)
  exact oG F hc hf.h e ((cl S1 H).mono (fun e w' h=>h.gv)) (fun a' v w' hv F'=>hv.go kt (fun u f hu hj=>by
    obtain⟨rfl,S,hf'⟩:=hu
    exact hj.h a' w' F' (by rw[hf' E];exact bk S) xq h1 h2))⟩
theorem jkw {fi:FuncId} {xs:List Operand} {at':Array TypeId} {vs:List Value} {A A':As} {u:Value} [hf:Cf P fi] (cl:∀ {w X1},Sep X1 N w w [A]→Sep X N w0 w (A::D)→Calls P fi vs.toArray w (Gv (fun v w'=>v=u∧Sep X1 N w w' [A']))) (kt:J n X N w0 ((d,u)::L) (A'::D) tt CC (wpList P ops Q rest))
    (hc:qH ops n L g d=true:=by rfl) (e:evs L xs=some vs:=by rfl):J n X N w0 L (A::D) tt CC (wpList P ops Q (⟨some d,.call ⟨.value (.func fi),xs.toArray,at'⟩,ty,pos,af,g⟩::rest)):=⟨fun a w F H xq h1 h2=>by
  obtain⟨X1,S1,bk⟩:=Sep.lend1 H
  exact oG F hc hf.h e (cl S1 H) (fun a' v w' ⟨hv,S⟩ F'=>by subst hv;exact kt.h a' w' F' (bk S) xq h1 h2)⟩
theorem jex0 {γ:Type} {E:γ→List As} (f:∀ {w},Sep X N w0 w D→∃ u,Sep X N w0 w (E u)) (kt:∀ u,J n X N w0 L (E u) tt CC G):J n X N w0 L D tt CC G:=⟨fun a w F H xq h1 h2=>let ⟨u,H'⟩:=f H;(kt u).h a w F H' xq h1 h2⟩
theorem jt {t':Option ρ} (e:tt=t') (kt:J n X N w0 L D t' CC G):J n X N w0 L D tt CC G:=e ▸ kt
theorem jig {cc:Operand} {b:Bool} {x y:Code} (ht:b=true→J n X N w0 L D tt CC (x.wp P Q)) (hf:b=false→J n X N w0 L D tt CC (y.wp P Q)) (e:ev L cc=some (.bool b):=by rfl):J n X N w0 L D tt CC ((Code.cond cc x y).wp P Q):=⟨fun a w F H r h1 h2=>by
  cases b with
  | true=>exact xTg F e ((ht rfl).h a w F H r h1 h2)
  | false=>exact xTm F e ((hf rfl).h a w F H r h1 h2)⟩
theorem xDj.of_gt {v:Value} {e:Ending} {w':World} {h:List As→List As} (hg:Gt M w [] (.st v h) e w'):xDj v w e w':=⟨hg.1,hg.2.1.bl⟩
theorem jqk {fi:FuncId} {xs:List Operand} {at':Array TypeId} {vs:List Value} {v:Value} {h:List As→List As} {M:World→Nat→Prop} [hf:Cf P fi] (cl:∀ {w},Sep X N w0 w D→Calls P fi vs.toArray w (Gt (M w) w [] (.st v h))) (kt:J n X N w0 ((d,v)::L) D tt CC (Gq P ops X N w0 D K rest))
    (hc:qH ops n L g d=true:=by rfl) (e:evs L xs=some vs:=by rfl):J n X N w0 L D tt CC (Gq P ops X N w0 D K (⟨some d,.call ⟨.value (.func fi),xs.toArray,at'⟩,ty,pos,af,g⟩::rest)):=⟨fun a w F H xq h1 h2=>
  xSz F hc hf.h e (fun w w' h l=>l.through h) (fun w' l=>(cl (H.go l)).mono (fun e w'' h=>xDj.of_gt h)) (fun a' F'=>kt.h a' w F' H xq h1 h2)⟩
theorem jqkI {fi:FuncId} {xs:List Operand} {at':Array TypeId} {vs:List Value} {v:Value} {p:Prop} {h:List As→List As} {M:World→Nat→Prop} [hf:Cf P fi] (hp:p) (cl:∀ {w},Sep X N w0 w D→Calls P fi vs.toArray w (Gt (M w) w [] (.fa p (.st v h)))) (kt:J n X N w0 ((d,v)::L) D tt CC (Gq P ops X N w0 D K rest))
    (hc:qH ops n L g d=true:=by rfl) (e:evs L xs=some vs:=by rfl):J n X N w0 L D tt CC (Gq P ops X N w0 D K (⟨some d,.call ⟨.value (.func fi),xs.toArray,at'⟩,ty,pos,af,g⟩::rest)):=⟨fun a w F H xq h1 h2=>
  xSz F hc hf.h e (fun w w' h l=>l.through h) (fun w' l=>(cl (H.go l)).mono (fun e w'' h=>xDj.of_gt h.2)) (fun a' F'=>kt.h a' w F' H xq h1 h2)⟩
theorem xWw {fi:FuncId} {xs:List Operand} {at':Array TypeId} {vs:List Value} {v:Value} {p:Prop} {h:List As→List As} {M:World→Nat→Prop} [hf:Cf P fi] (cl:∀ {w},Sep X N w0 w D→Calls P fi vs.toArray w (Gt (M w) w [] (.fa p (.st v h)))) (kt:p→J n X N w0 ((d,v)::L) D tt CC (Gq P ops X N w0 D K rest))
    (hc:qH ops n L g d=true:=by rfl) (e:evs L xs=some vs:=by rfl):J n X N w0 L D tt CC (Gq P ops X N w0 D K (⟨some d,.call ⟨.value (.func fi),xs.toArray,at'⟩,ty,pos,af,g⟩::rest)):=⟨fun a w F H xq h1 h2=>
  let ⟨_,_,hh⟩:=Calls.some (cl H);(jqkI hh.1 cl (kt hh.1) hc e).h a w F H xq h1 h2⟩
theorem oCm {α:Type} {sz:Nat} {R:ER α} {x:Operand} {t:TypeId} {v:Value} {l:List α} {e:TypeId} [ht:Ug P t (.slice e)] (h:∀ {w},Sep X N w0 w D→Bo (All w) w (Sl sz R) v l) (kt:xH (l.length:Int)→J n X N w0 ((d,.int .i64 l.length)::L) D tt CC (Gq P ops X N w0 D K rest))
    (hc:qH ops n L g d=true:=by rfl) (he:ev L x=some v:=by rfl):J n X N w0 L D tt CC (Gq P ops X N w0 D K (⟨some d,.call ⟨.builtin .len,#[x],#[t]⟩,ty,pos,af,g⟩::rest)):=⟨fun a w F H xq h1 h2=>qL ht.h F hc he (h H) (fun a' i F'=>(kt i).h a' w F' H xq h1 h2)⟩
theorem jLc {α:Type} {sz:Nat} {R:ER α} {x:Operand} {t:TypeId} {v:Value} {l:List α} {e:TypeId} [ht:Ug P t (.slice e)] (h:∀ {w},Sep X N w0 w D→Bo (All w) w (Sl sz R) v l) (kt:xH (l.length:Int)→J n X N w0 ((d,.int .i64 l.length)::L) D tt CC (wpList P ops Q rest))
    (hc:qH ops n L g d=true:=by rfl) (he:ev L x=some v:=by rfl):J n X N w0 L D tt CC (wpList P ops Q (⟨some d,.call ⟨.builtin .len,#[x],#[t]⟩,ty,pos,af,g⟩::rest)):=⟨fun a w F H xq h1 h2=>oL ht.h F hc he (h H) (fun a' i F'=>(kt i).h a' w F' H xq h1 h2)⟩
theorem zB {e:ρ} {I:ρ→Tl Value (List As→List As)} {r1:ResultVar} {v1:Value} (h1:Rs P n X N w0 L [] r1 v1) (h:(I e).any fun v f=>Lv v v1 f []) (hr:fn.results = #[r1]:=by rfl):J n X N w0 L D (some e) (Cq I N w0 X R) (bodyPost P fn R .ret):=js [] rfl (j1 h1 h hr)
theorem jno:J n X N w0 L D (none:Option ρ) CC G:=⟨fun _ _ _ _ _ h1 _=>nomatch h1⟩
theorem jev (i:Nat) {v u:Value} (hv:v=u) (h:J n X N w0 ((i,u)::L) D tt CC G) (e:nZ L i=some v:=by rfl):J n X N w0 L D tt CC G:=⟨fun a w F=>h.h a w (F.eq e hv)⟩
theorem rcA (i:Nat) {tm b sz:Nat} {T T':TypeId} {cs:List Value} [hag:Ag P T true] [hsz:Sz P T sz] (hh:nZ L tm=some (.pointer (some ⟨b,0,none⟩))∧D[i]?=some (bx b cs T')) (hl:cs.length=sz:=by rfl):Rs P n X N w0 L D (.cell tm T) (.agg cs.toArray):=fun a w F H=>oCn F hag.h (fun w=>by rw[List.size_toArray,hl];exact hsz.h w) hh.1 (H.b i hh.2)
theorem j1m {e:ρ} {I:ρ→Tl Value (List As→List As)} {r1:ResultVar} {v1:Value} (th:∀ {w},Sep X N w0 w D→Sep X N w0 w D') (h1:Rs P n X N w0 L D r1 v1) (h:(I e).any fun v f=>Lv v v1 f D') (hr:fn.results = #[r1]:=by rfl):J n X N w0 L D (some e) (Cq I N w0 X R) (bodyPost P fn R .ret):=⟨fun a w F H x hx hc=>by
  cases hx
  exact tB F hr (h1 a w F H) (hc _ _ (h.map (fun v f h=>⟨congrArg _ h.1.symm,by rw[h.2,List.append_nil];exact th H,fun E=>by rw[h.2,h.2,List.append_nil]⟩)))⟩
theorem j2m {e:ρ} {I:ρ→Tl Value (List As→List As)} {r1 r2:ResultVar} {v1 v2:Value} (th:∀ {w},Sep X N w0 w D→Sep X N w0 w D') (h1:Rs P n X N w0 L D r1 v1) (h2:Rs P n X N w0 L D r2 v2) (h:(I e).any fun v f=>Lv v (.tuple #[v1,v2]) f D') (hr:fn.results = #[r1,r2]:=by rfl):J n X N w0 L D (some e) (Cq I N w0 X R) (bodyPost P fn R .ret):=⟨fun a w F H x hx hc=>by
  cases hx
  exact xUc F hr (h1 a w F H) (h2 a w F H) (hc _ _ (h.map (fun v f h=>⟨congrArg _ h.1.symm,by rw[h.2,List.append_nil];exact th H,fun E=>by rw[h.2,h.2,List.append_nil]⟩)))⟩
theorem j3m {e:ρ} {I:ρ→Tl Value (List As→List As)} {r1 r2 r3:ResultVar} {v1 v2 v3:Value} (th:∀ {w},Sep X N w0 w D→Sep X N w0 w D') (h1:Rs P n X N w0 L D r1 v1) (h2:Rs P n X N w0 L D r2 v2) (h3:Rs P n X N w0 L D r3 v3) (h:(I e).any fun v f=>Lv v (.tuple #[v1,v2,v3]) f D') (hr:fn.results = #[r1,r2,r3]:=by rfl):J n X N w0 L D (some e) (Cq I N w0 X R) (bodyPost P fn R .ret):=⟨fun a w F H x hx hc=>by
  cases hx
  exact xTn F hr (h1 a w F H) (h2 a w F H) (h3 a w F H) (hc _ _ (h.map (fun v f h=>⟨congrArg _ h.1.symm,by rw[h.2,List.append_nil];exact th H,fun E=>by rw[h.2,h.2,List.append_nil]⟩)))⟩
theorem jRI {t e:TypeId} {z:Value} {parts:Array (Nat×Operand)} {m:Nat} (l:List Int) [ht:Ug P t (.slice e)] [hsz:Sz P e 1] [hz:Zv P e z] (hI:∀ y∈l,xH y) (kt:∀ v,J n X N w0 ((d,v)::L) (rl 1 xG e v l::D) tt CC (wpList P ops Q rest))
    (hzs:z.cells.size=1:=by rfl) (hc:qH ops n L g d=true:=by rfl) (hp:parts.toList=(List.range' 0 (parts.toList.map Prod.snd).length).zip (parts.toList.map Prod.snd):=by rfl) (hm:m=l.length:=by rfl) (hm1:Nat.ble l.length 1000=true:=by rfl) (hm0:Nat.blt 0 l.length=true:=by rfl)
    (hx:evs L (parts.toList.map Prod.snd)=some (l.map (Value.int .i64)):=by rfl):J n X N w0 L D tt CC (wpList P ops Q (⟨some d,.buildSlice t m parts,ty,pos,af,g⟩::rest)):=⟨fun a w F H xq h1 h2=>
  oRI ht.h hsz.h hz.h hzs F hc hp hm hm1 hm0 hx hI H (fun a' w' v H' F'=>(kt v).h a' w' F' H' xq h1 h2)⟩
theorem jRE {α:Type} (enc:α→Value) (Ok:α→Prop) {R:ER α} [hF:FrC 1 R] (hR:∀ w f x,Ok x→f 0=some (enc x)→R w f x []) (h1c:∀ x,(enc x).oneCell'=true) {t e:TypeId} {z:Value} {parts:Array (Nat×Operand)} {m:Nat} (l:List α) [ht:Ug P t (.slice e)] [hsz:Sz P e 1] [hz:Zv P e z] (hI:∀ y∈l,Ok y) (kt:∀ v,J n X N w0 ((d,v)::L) (rl 1 R e v l::D) tt CC (wpList P ops Q rest))
    (hzs:z.cells.size=1:=by rfl) (hc:qH ops n L g d=true:=by rfl) (hp:parts.toList=(List.range' 0 (parts.toList.map Prod.snd).length).zip (parts.toList.map Prod.snd):=by rfl) (hm:m=l.length:=by rfl) (hm1:Nat.ble l.length 1000=true:=by rfl) (hm0:Nat.blt 0 l.length=true:=by rfl)
    (hx:evs L (parts.toList.map Prod.snd)=some (l.map enc):=by rfl):J n X N w0 L D tt CC (wpList P ops Q (⟨some d,.buildSlice t m parts,ty,pos,af,g⟩::rest)):=⟨fun a w F H xq h1 h2=>
  oRE enc Ok hR h1c ht.h hsz.h hz.h hzs F hc hp hm hm1 hm0 hx hI H (fun a' w' v H' F'=>(kt v).h a' w' F' H' xq h1 h2)⟩
theorem lA (kt:∀ w1 X1 N1,Sm N w0 w1→Rdg N1 w1 A→Lf N w0 N1 w1 →
    ((∀ {w':World} {K:List As},Sep X1 N1 w1 w' K→(∀ B∈K,∀ c,B.N c→N c)→Sep X N w0 w' (A::K)) ∧
    (∀ {w':World} {K:List As} {α:Type} {V:VR α} [VF V] {v:Value} {x:α},Sep X1 N1 w1 w' (ro N1 (V:=V) v x::K)→(∀ B∈K,∀ c,B.N c→N c)→Sep X N w0 w' (ro N (V:=V) v x::K))∧(∀ c,N c→N1 c)) →
    (∀ {f:(Nat→Prop)→As},Ab f→∀ {w':World} {K:List As},Sep X1 N1 w1 w' (f N1::K)→(∀ B∈K,∀ c,B.N c→N c)→Sep X N w0 w' (f N::K))→J n X1 N1 w1 L D tt CC G):J n X N w0 L (A::D) tt CC G:=⟨fun a w F H xq h1 h2=>
  let ⟨X1,N1,g,e,H1,th,ab⟩:=H.fza
  (kt w X1 N1 H.sm g e th ab).h a w F H1 xq h1 h2⟩
theorem dL {G':Prop} {X1:List Nat} {N1:Nat→Prop} (th:(∀ {w':World} {K:List As},Sep X1 N1 w1 w' K→(∀ B∈K,∀ c,B.N c→N c)→Sep X N w0 w' (A::K))∧G') (kt:J n X N w0 L (A::D) tt CC G) (hs:Ns N D:=by repeat (first | exact trivial | refine⟨n0,?_⟩ | refine⟨n1,?_⟩)):J n X1 N1 w1 L D tt CC G:=⟨fun a w F H=>kt.h a w F (th.1 H hs.all)⟩
end
end Go.Proofs.YtlommebgedmjdaaGreatDoor
