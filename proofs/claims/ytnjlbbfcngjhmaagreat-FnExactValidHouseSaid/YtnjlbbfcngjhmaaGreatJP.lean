import Derived.Test.YtnjlbbfcngjhmaaGreatProg
import Derived.Shelf.SlicesE.Compact
import Derived.Shelf.SortG.Plain
import Derived.Shelf.SortG.SortNone
import Derived.Shelf.Lays
import Derived.Shelf.Bits.Mul64
import Derived.Laws.IdiomCopy
import Derived.Test.YtnjlbbfcngjhmaaGreatJB
namespace Go.Proofs.YtnjlbbfcngjhmaaGreat
set_option linter.unusedVariables false
set_option linter.unusedSimpArgs false
section
open Go.RowKit
variable {x:Operand} {fi:FuncId} {r1:ResultVar}
theorem e2 {α β:Type} {a:α} {b:β}:a=a/\b=b:=⟨rfl,rfl⟩
theorem e3 {α β γ:Type} {a:α} {b:β} {c:γ}:a=a/\b=b/\c=c:=⟨rfl,rfl,rfl⟩
theorem e5 {α β γ δ ε:Type} {a:α} {b:β} {c:γ} {d:δ} {e:ε}:a=a/\b=b/\c=c/\d=d/\e=e:=⟨rfl,rfl,rfl,rfl,rfl⟩
class BdT (P:Program) (t:Ty) (fs:outParam (Array Field)) (z:outParam Vl) (places:outParam (Array (Nat×Nat))):Prop where
  u:P.underlying t=some (.struct fs)
  z:∀ w,(zeroValue t).run P w= .ok z w
  p:∀ w,(fs.mapM λf=>do pure (f.offset,<- sizeOf f.type):Sem (Array (Nat×Nat))).run P w= .ok places w
class Len {α:Type} (l:List α) (k:outParam Nat):Prop where
  h:l.length=k
instance {α:Type}:Len ([]:List α) 0:=⟨rfl⟩
instance {α:Type} {x:α} {l:List α} {k:Nat} [h:Len l k]:Len (x::l) (k+1):=⟨by rw[Am,h.h]⟩
theorem nel {p q N:Nat->Prop} (f:∀ c,p c->N c) (g:∀ c,q c->N c):∀ c,p c∨q c->N c:=λc h=>h.elim (f c) (g c)
class Fv (P:Program) (t:Ty) (k:Nat) (off:outParam Nat):Prop where
  h:∀ (cs:Array Vl) (v:Vl) (w:Wd),cs[off]?=some v->(Instr.field t (.agg cs) k).run P w= .ok v w
theorem Fv.mk' {P:Program} {t:Ty} {k off:Nat} {fs:Array Field} {f:Field} (ht:P.underlying t=some (.struct fs)) (hk:fs[k]?=some f) (ho:f.offset=off) (ha:∀ w,(isAgg f.type).run P w= .ok false w):Fv P t k off:=⟨λcs v w h=>by
 subst ho
 simp [Instr.field,run_underlying ht,hk,asAgg,part,ha,h]⟩
theorem xSe {P:Program} {a:Act} {n:Nat} {L:List (Nat×Vl)} {d:Option Tmp} {ty:Ty} {pos:String} {af:Array Edge} {g:Option (Nat×Bool)} {t:Ty} {k off:Nat} {cs:Array Vl} {v:Vl} [hf:Fv P t k off] (F:Sk a n L) (e:ev L x=some (.agg cs)) (hv:cs[off]?=some v) {w:Wd}:(execOp a.eval ⟨d,.field t x k,ty,pos,af,g⟩).run P w= .ok (.value v) w:=by
 unfold execOp;simp [F.ev e,hf.h cs v w hv]
section
variable {P:Program} {ops:Array Oper} {Q Q':Exit->Act->Wd->Prop} {fn:Func} {n:Nat} {X X':List Nat} {N N' M N1 Mv:Nat->Prop} {w0 w w1:Wd} {L L':List (Nat×Vl)} {D D' D0:List As} {A B:As} {ρ σ τ:Type} {tt:Option ρ} {CC:ρ->Prop} {G G' K:Act->Wd->Prop} {R:Ending->Wd->Prop} {l l' rest:List Oper} {d f:Nat} {ls:Array Bool} {ty:Ty} {pos:String} {af:Array Edge} {g:Option (Nat×Bool)}
theorem jb (i:Nat) {t:Ty} {b o:Nat} {v:Vl} {cs:List Vl} {T:Ty} [hag:Ag P t false] (hh:D[i]?=some (bx b cs T)/\ev L x=some (.pointer (some ⟨b,o,none⟩))/\cs[o]?=some v) (kt:J n X N w0 ((d,v)::L) D tt CC (wpList P ops Q rest)) (hc:vO ops n L g d=true:=by rfl):J n X N w0 L D tt CC (wpList P ops Q (⟨some d,.load t x,ty,pos,af,g⟩::rest)):=⟨λa w F H xq h1 h2=>oB hag.h F hc hh.2.1 (H.b i hh.1) hh.2.2 (λa' F'=>kt.h a' w F' H xq h1 h2)⟩
theorem aG (i:Nat) {t:Ty} {b o sz:Nat} {cs vs:List Vl} {T:Ty} [hag:Ag P t true] [hsz:Sz P t sz] (hh:D[i]?=some (bx b cs T)/\ev L x=some (.pointer (some ⟨b,o,none⟩))/\(cs.drop o).take sz=vs) (kt:J n X N w0 ((d,.agg vs.toArray)::L) D tt CC (wpList P ops Q rest)) (hl:vs.length=sz:=by rfl) (hc:vO ops n L g d=true:=by rfl):J n X N w0 L D tt CC (wpList P ops Q (⟨some d,.load t x,ty,pos,af,g⟩::rest)):=⟨λa w F H xq h1 h2=>oBA hag.h hsz.h F hc hh.2.1 (H.b i hh.1) hh.2.2 hl (λa' F'=>kt.h a' w F' H xq h1 h2)⟩
theorem jbK {t:Ty} {b o:Nat} {v:Vl} {cs:List Vl} {T:Ty} [hag:Ag P t false] (hK:Bk N w0 b cs T) (hh:ev L x=some (.pointer (some ⟨b,o,none⟩))/\cs[o]?=some v) (kt:J n X N w0 ((d,v)::L) D tt CC (wpList P ops Q rest)) (hc:vO ops n L g d=true:=by rfl):J n X N w0 L D tt CC (wpList P ops Q (⟨some d,.load t x,ty,pos,af,g⟩::rest)):=⟨λa w F H xq h1 h2=>oB hag.h F hc hh.1 (hK.o H.sm) hh.2 (λa' F'=>kt.h a' w F' H xq h1 h2)⟩
theorem jbAK {t:Ty} {b o sz:Nat} {cs vs:List Vl} {T:Ty} [hag:Ag P t true] [hsz:Sz P t sz] (hK:Bk N w0 b cs T) (hh:ev L x=some (.pointer (some ⟨b,o,none⟩))/\(cs.drop o).take sz=vs) (kt:J n X N w0 ((d,.agg vs.toArray)::L) D tt CC (wpList P ops Q rest)) (hl:vs.length=sz:=by rfl) (hc:vO ops n L g d=true:=by rfl):J n X N w0 L D tt CC (wpList P ops Q (⟨some d,.load t x,ty,pos,af,g⟩::rest)):=⟨λa w F H xq h1 h2=>oBA hag.h hsz.h F hc hh.1 (hK.o H.sm) hh.2 hl (λa' F'=>kt.h a' w F' H xq h1 h2)⟩
theorem oEy {t:Ty} {fs:Array Field} {z:Vl} {places:Array (Nat×Nat)} {parts:Array (Nat×Operand)} {ps:List (Nat×Operand)} {idx:List Nat} {xs:List Operand} {vs:List Vl} {cs:Array Vl} (qs:List (Nat×List Vl)) [hb:BdT P t fs z places] (hh:parts.toList=ps/\ps.map Prod.fst=idx/\ps.map Prod.snd=xs/\evs L xs=some vs/\xQi z.cells qs=cs) (hf:∀ {w},Sep X N w0 w D->xUa places z.cells.size idx vs qs) (kt:J n X N w0 ((d,.agg cs)::L) D tt CC (wpList P ops Q rest)) (hc:vO ops n L g d=true:=by rfl):J n X N w0 L D tt CC (wpList P ops Q (⟨some d,.build t parts,ty,pos,af,g⟩::rest)):=⟨λa w F H xq h1 h2=>oBe hb.u hb.z hb.p F hc hh.1 hh.2.1 hh.2.2.1 hh.2.2.2.1 (hf H) hh.2.2.2.2 (λa' F'=>kt.h a' w F' H xq h1 h2)⟩
theorem jX1 {T:Ty} {v:Vl} (he:ev L x=some v) (hone:∀ {w},Sep X N w0 w D->v.oneCell'=true) (kt:∀ b,J n X N w0 ((d,.pointer (some ⟨b,0,none⟩))::L) (bx b [v] T::D) tt CC (wpList P ops Q rest)) (hc:vO ops n L g d=true:=by rfl) : J n X N w0 L D tt CC (wpList P ops Q (⟨some d,.box T x,ty,pos,af,g⟩::rest)):=⟨λa w F H xq h1 h2=>oX F hc he (xHj (hone H)) H (λa' w' b H' F'=>(kt b).h a' w' F' H' xq h1 h2)⟩
theorem oV {t:Ty} {fs:Array Field} {z:Vl} {places:Array (Nat×Nat)} {parts:Array (Nat×Operand)} {ps:List (Nat×Operand)} {idx:List Nat} {xs:List Operand} {vs:List Vl} {cs:Array Vl} [hb:BdT P t fs z places] (hh:parts.toList=ps/\ps.map Prod.fst=idx/\ps.map Prod.snd=xs/\evs L xs=some vs/\(idx.zip vs).foldl (λcs p=>cs.setIfInBounds p.1 p.2) z.cells=cs) (kt:J n X N w0 ((d,.agg cs)::L) D tt CC (wpList P ops Q rest)) (hc:vO ops n L g d=true:=by rfl) (hone:∀ {w},Sep X N w0 w D->∀ v∈vs,v.oneCell'=true:=by intro _ _;repeat (first | exact on | refine oc rfl ?_)) (qa:idx.all (λi=>places[i]?==some (i,1) && decide (i<z.cells.size))=true:=by rfl) : J n X N w0 L D tt CC (wpList P ops Q (⟨some d,.build t parts,ty,pos,af,g⟩::rest)):=⟨λa w F H xq h1 h2=>xUd hb.u hb.z hb.p F hc hh.1 hh.2.1 hh.2.2.1 hh.2.2.2.1 (hone H) qa hh.2.2.2.2 (λa' F'=>kt.h a' w F' H xq h1 h2)⟩
theorem jQ [hm:Mo P] {id:Nat} (kt:J n X N w0 L D tt CC (Gq P l.toArray X N w0 D (Q .normal) l)) (qa:Region.lexB .any l.toArray=true:=by kernel_rfl):J n X N w0 L D tt CC ((Code.region id l.toArray true).wp P Q):=⟨λa w F H xq h1 h2=>xQ H hm.h qa (kt.h a w F H xq h1 h2)⟩
theorem nD (kt:J n X N w0 L D tt CC K):J n X N w0 L D tt CC (Gq P ops X N w0 D K []):=⟨λa w F H xq h1 h2=>oLc (λw' H'=>kt.h a w' F H' xq h1 h2)⟩
theorem jqv {op:Go.Op} {v:Vl} (hr:∀ {a w},Sk a n L->Sep X N w0 w D->∀ w',Below w.heap.size w w'->(execOp a.eval ⟨some d,op,ty,pos,af,g⟩).run P w'= .ok (.value v) w') (kt:J n X N w0 ((d,v)::L) D tt CC (Gq P ops X N w0 D K rest)) (hc:vO ops n L g d=true:=by rfl) : J n X N w0 L D tt CC (Gq P ops X N w0 D K (⟨some d,op,ty,pos,af,g⟩::rest)):=⟨λa w F H xq h1 h2=>pH F hc (hr F H) (λa' F'=>kt.h a' w F' H xq h1 h2)⟩
theorem xXl {C:Wd->Prop} {K:Act->Prop}:∀ (k:Nat) {a:Act} {L:List (Nat×Vl)} {l:List Oper} (F:Sk a n L) (h:sJ ops n k L l=some (L',l')) (c:∀ a',Sk a' n L'->wpQuiet P ops C K l' a'),wpQuiet P ops C K l a
 | 0,a,L,l,F,h,c=>by
  obtain⟨rfl,rfl⟩:=Prod.mk.inj (Option.some.inj h);exact c a F
 | k+1,a,L,[],F,h,c=>by cases h
 | k+1,a,L,⟨some d,op,ty,pos,af,g⟩::l,F,h,c=>by
  change (match vO ops n L g d with | true=>(match pv L op with | some v=>sJ ops n k ((d,v)::L) l | none=>none) | false=>(match gno ops L g && Nat.blt d n with | true=>sJ ops n k ((d,undef)::L) l | false=>none))=_ at h
  split at h
  ·rename_i h1
   split at h
   ·rename_i v h2
    exact pH F h1 (λw _=>oIe F h2) (λa F=>xXl k F h c)
   ·cases h
  ·split at h
   ·rename_i h2
    rw[Ba] at h2;exact q_no F h2.1 h2.2 (λa F=>xXl k F h c)
   ·cases h
 | k+1,a,L,⟨none,op,ty,pos,af,g⟩::l,F,h,c=>by
  change (match gno ops L g with | true=>sJ ops n k L l | false=>none)=_ at h
  split at h
  ·rename_i h1
   unfold wpQuiet
   rw[if_neg (by rw[uK F (o:=⟨none,op,ty,pos,af,g⟩) h1];exact Bool.false_ne_true)];have:a.put none undef=a:=rfl
   first | exact xXl k F h c | (simp only[this];exact xXl k F h c)
  ·cases h
theorem zA (k:Nat) (e:sJ ops n k L l=some (L',l')) (kt:J n X N w0 L' D tt CC (Gq P ops X N w0 D K l')):J n X N w0 L D tt CC (Gq P ops X N w0 D K l):=⟨λa w F H xq h1 h2=>xXl k F e (λa' F'=>kt.h a' w F' H xq h1 h2)⟩
theorem jqb (i:Nat) {t:Ty} {b o:Nat} {v:Vl} {cs:List Vl} {T:Ty} [hag:Ag P t false] (hh:D[i]?=some (bx b cs T)/\ev L x=some (.pointer (some ⟨b,o,none⟩))/\cs[o]?=some v) (kt:J n X N w0 ((d,v)::L) D tt CC (Gq P ops X N w0 D K rest)) (hc:vO ops n L g d=true:=by rfl):J n X N w0 L D tt CC (Gq P ops X N w0 D K (⟨some d,.load t x,ty,pos,af,g⟩::rest)):=⟨λa w F H xq h1 h2=>qB hag.h F hc hh.2.1 (H.qb i hh.1) hh.2.2 (λa' F'=>kt.h a' w F' H xq h1 h2)⟩
theorem jqbA (i:Nat) {t:Ty} {b o sz:Nat} {cs vs:List Vl} {T:Ty} [hag:Ag P t true] [hsz:Sz P t sz] (hh:D[i]?=some (bx b cs T)/\ev L x=some (.pointer (some ⟨b,o,none⟩))/\(cs.drop o).take sz=vs) (kt:J n X N w0 ((d,.agg vs.toArray)::L) D tt CC (Gq P ops X N w0 D K rest)) (hl:vs.length=sz:=by rfl) (hc:vO ops n L g d=true:=by rfl):J n X N w0 L D tt CC (Gq P ops X N w0 D K (⟨some d,.load t x,ty,pos,af,g⟩::rest)):=⟨λa w F H xq h1 h2=>qBA hag.h hsz.h F hc hh.2.1 (H.qb i hh.1) hh.2.2 hl (λa' F'=>kt.h a' w F' H xq h1 h2)⟩
theorem sW {t:Ty} {kk b o o' off:Nat} [hp:Fd P t kk off] (hh:ev L x=some (.pointer (some ⟨b,o,none⟩))/\o+off=o') (kt:J n X N w0 ((d,.pointer (some ⟨b,o',none⟩))::L) D tt CC (Gq P ops X N w0 D K rest)) (hc:vO ops n L g d=true:=by rfl) : J n X N w0 L D tt CC (Gq P ops X N w0 D K (⟨some d,.fieldAddr t x kk,ty,pos,af,g⟩::rest)):=jqv (λF H w l=>xRh hp.h F hh.1 hh.2) kt hc
theorem jD [hm:Mo P] {id k:Nat} [hk:Len l k] (kt:J n X N w0 L D tt CC (zB P l.toArray (Q .normal) (Sm N) k (Array.replicate l.length false))):J n X N w0 L D tt CC ((Code.region id l.toArray true).wp P Q):=⟨λa w F H xq h1 h2=>xD H hm.h (λw' H'=>hk.h.symm ▸ kt.h a w' F H' xq h1 h2)⟩
theorem iT {Kr:Wd->Wd->Prop} (kt:J n X N w0 L D tt CC K) (hr:Region.ready .any ops ls=[]:=by kernel_rfl):J n X N w0 L D tt CC (zB P ops K Kr 0 ls):=⟨λa w F H xq h1 h2=>oFj hr (kt.h a w F H xq h1 h2)⟩
theorem jvv (ii:Nat) {op:Go.Op} {v:Vl} (qa:ops[ii]?=some ⟨some d,op,ty,pos,af,g⟩) (hr:∀ {a w},Sk a n L->Sep X N w0 w D->∀ w',Sm Mv w w'->(execOp a.eval ⟨some d,op,ty,pos,af,g⟩).run P w'= .ok (.value v) w') (kt:J n X N w0 ((d,v)::L) D tt CC (zB P ops K (Sm Mv) f (ls.setIfInBounds ii true))) (hc:vO ops n L g d=true:=by rfl) (hb:bqc ops ls ii true=true:=by kernel_rfl):J n X N w0 L D tt CC (zB P ops K (Sm Mv) (f+1) ls):=⟨λa w F H xq h1 h2=>bq hb qa (gT F hc (hr F H) (λa' F'=>kt.h a' w F' H xq h1 h2))⟩
theorem jvz (ii:Nat) {op:Go.Op} {v:Vl} (qa:ops[ii]?=some ⟨some d,op,ty,pos,af,g⟩) (hr:∀ {a w},Sk a n L->Sep X N w0 w D->∀ w',True->(execOp a.eval ⟨some d,op,ty,pos,af,g⟩).run P w'= .ok (.value v) w') (kt:J n X N w0 ((d,v)::L) D tt CC (zB P ops K (Sm Mv) f (ls.setIfInBounds ii true))) (hc:vO ops n L g d=true:=by rfl) (hb:bqc ops ls ii false=true:=by kernel_rfl):J n X N w0 L D tt CC (zB P ops K (Sm Mv) (f+1) ls):=⟨λa w F H xq h1 h2=>bz hb qa (gT F hc (hr F H) (λa' F'=>kt.h a' w F' H xq h1 h2))⟩
theorem iG (ii:Nat) {t:Ty} {b o:Nat} {v:Vl} {cs:List Vl} {T:Ty} (qa:ops[ii]?=some ⟨some d,.load t x,ty,pos,af,g⟩) [hag:Ag P t false] (hK:Bk Mv w1 b cs T) (hh:ev L x=some (.pointer (some ⟨b,o,none⟩))/\cs[o]?=some v) (kt:J n X N w0 ((d,v)::L) D tt CC (zB P ops K (Sm Mv) f (ls.setIfInBounds ii true))) (s:∀ {w},Sep X N w0 w D->Sm Mv w1 w:=by exact Sep.sm) (hc:vO ops n L g d=true:=by rfl) (hb:bqc ops ls ii true=true:=by kernel_rfl):J n X N w0 L D tt CC (zB P ops K (Sm Mv) (f+1) ls):=⟨λa w F H xq h1 h2=>bq hb qa (vB hag.h F hc hh.1 (hK.v (s H)) hh.2 (λa' F'=>kt.h a' w F' H xq h1 h2))⟩
theorem rY (ii:Nat) {t:Ty} {b o sz:Nat} {cs vs:List Vl} {T:Ty} (qa:ops[ii]?=some ⟨some d,.load t x,ty,pos,af,g⟩) [hag:Ag P t true] [hsz:Sz P t sz] (hK:Bk Mv w1 b cs T) (hh:ev L x=some (.pointer (some ⟨b,o,none⟩))/\(cs.drop o).take sz=vs) (kt:J n X N w0 ((d,.agg vs.toArray)::L) D tt CC (zB P ops K (Sm Mv) f (ls.setIfInBounds ii true))) (s:∀ {w},Sep X N w0 w D->Sm Mv w1 w:=by exact Sep.sm) (hl:vs.length=sz:=by rfl) (hc:vO ops n L g d=true:=by rfl) (hb:bqc ops ls ii true=true:=by kernel_rfl):J n X N w0 L D tt CC (zB P ops K (Sm Mv) (f+1) ls):=⟨λa w F H xq h1 h2=>bq hb qa (vBA hag.h hsz.h F hc hh.1 (hK.v (s H)) hh.2 hl (λa' F'=>kt.h a' w F' H xq h1 h2))⟩
theorem kB (ii:Nat) {t:Ty} {kk b o o' off:Nat} (qa:ops[ii]?=some ⟨some d,.fieldAddr t x kk,ty,pos,af,g⟩) [hp:Fd P t kk off] (hh:ev L x=some (.pointer (some ⟨b,o,none⟩))/\o+off=o') (kt:J n X N w0 ((d,.pointer (some ⟨b,o',none⟩))::L) D tt CC (zB P ops K (Sm Mv) f (ls.setIfInBounds ii true))) (hc:vO ops n L g d=true:=by rfl) (hb:bqc ops ls ii true=true:=by kernel_rfl):J n X N w0 L D tt CC (zB P ops K (Sm Mv) (f+1) ls):=jvv ii qa (λF H w l=>xRh hp.h F hh.1 hh.2) kt hc hb
def xZc (ops:Array Oper) (n:Nat):List Nat->List (Nat×Vl)->Option (List (Nat×Vl))
 | [],L=>some L
 | i::is,L=>match ops[i]? with
  | some ⟨some d,op,_,_,_,g⟩=>match vO ops n L g d with
   | true=>match pv L op with
    | some v=>xZc ops n is ((d,v)::L)
    | none=>none
   | false=>match gno ops L g && Nat.blt d n with
    | true=>xZc ops n is ((d,undef)::L)
    | false=>none
  | _=>none
def oGr (ls:Array Bool):List Nat->Array Bool | []=>ls | i::is=>oGr (ls.setIfInBounds i true) is
def oEt (ops:Array Oper):Array Bool->List Nat->Bool | _,[]=>true | ls,i::is=>bqc ops ls i (!cOp ops i) && oEt ops (ls.setIfInBounds i true) is
def oHs:List Nat->Nat->Nat | [],f=>f | _::is,f=>oHs is f+1
theorem bqz {a:Act} {i:Nat} {oi:Oper} {C:Wd->Prop} (hb:bqc ops ls i (!cOp ops i)=true) (hi:ops[i]?=some oi) (h:∀ C:Wd->Prop,wpV P ops C (λa'=>zB P ops K (Sm Mv) f (ls.setIfInBounds i true) a' w) oi a):zB P ops K (Sm Mv) (f+1) ls a w:=by
 cases hz : !cOp ops i with
 | true=>rw[hz] at hb;exact bq hb hi (h _)
 | false=>rw[hz] at hb;exact bz hb hi (h _)
theorem oAb {f:Nat}:∀ (is:List Nat) {a:Act} {L:List (Nat×Vl)} {ls:Array Bool} (F:Sk a n L) (h:xZc ops n is L=some L') (hb:oEt ops ls is=true) (c:∀ a',Sk a' n L'->zB P ops K (Sm Mv) f (oGr ls is) a' w),zB P ops K (Sm Mv) (oHs is f) ls a w
 | [],a,L,ls,F,h,hb,c=>by
  obtain rfl:=Option.some.inj h;exact c a F
 | i::is,a,L,ls,F,h,hb,c=>by
  unfold oEt at hb
  rw[Ba] at hb
  unfold xZc at h
  split at h
  ·rename_i d op ty pos af g hi
   split at h
   ·rename_i h1
    split at h
    ·rename_i v h2
     exact bqz (C:=λ_=>True) hb.1 hi (λC=>gT F h1 (λw _=>oIe F h2) (λa F=>oAb is F h hb.2 c))
    ·cases h
   ·split at h
    ·rename_i h2
     rw[Ba] at h2;exact bqz (C:=λ_=>True) hb.1 hi (λC=>v_no F h2.1 h2.2 (λa F=>oAb is F h hb.2 c))
    ·cases h
  ·cases h
theorem zF (is:List Nat) (e:xZc ops n is L=some L') (kt:J n X N w0 L' D tt CC (zB P ops K (Sm Mv) f (oGr ls is))) (hb:oEt ops ls is=true:=by kernel_rfl):J n X N w0 L D tt CC (zB P ops K (Sm Mv) (oHs is f) ls):=⟨λa w F H xq h1 h2=>oAb is F e hb (λa' F'=>kt.h a' w F' H xq h1 h2)⟩
theorem jE (ii:Nat) {oi:Oper} (hi:ops[ii]?=some oi) (kt:J n X N w0 L D tt CC (wpList P ops (Exit.then (λa' w'=>(∃ D',Sep X N w0 w' D')/\zB P ops K (Sm N) f (ls.setIfInBounds ii true) a' w') QF) [oi])) (hr:Region.ready .any ops ls=[ii]:=by kernel_rfl) : J n X N w0 L D tt CC (zB P ops K (Sm N) (f+1) ls):=⟨λa w F H xq h1 h2=>xE H ii hi hr (kt.h a w F H xq h1 h2)⟩
theorem jEt (th:∀ {w},Sep X' N' w1 w D->Sep X N w0 w D0) (ii:Nat) {oi:Oper} (hi:ops[ii]?=some oi) (kt:J n X' N' w1 L D tt CC (wpList P ops (Exit.then (λa' w'=>(∃ D',Sep X N w0 w' D')/\zB P ops K (Sm N) f (ls.setIfInBounds ii true) a' w') QF) [oi])) (hr:Region.ready .any ops ls=[ii]:=by kernel_rfl) : J n X' N' w1 L D tt CC (zB P ops K (Sm N) (f+1) ls):=⟨λa w F H xq h1 h2=>xE (th H) ii hi hr (kt.h a w F H xq h1 h2)⟩
theorem jF9 {Kr:Wd->Wd->Prop} (ii:Nat) {oi:Oper} (hi:ops[ii]?=some oi) (kt:J n X N w0 L D tt CC (wpList P ops (Exit.then (zB P ops K Kr f (ls.setIfInBounds ii true)) QF) [oi])) (hr:Region.ready .any ops ls=[ii]:=by kernel_rfl) (hF:xPy ops ii=true:=by kernel_rfl):J n X N w0 L D tt CC (zB P ops K Kr (f+1) ls):=⟨λa w F H xq h1 h2=>b_e ii hi hr (rX (λe a w q=>by cases e<;>first | exact q | exact⟨.inr hF,q⟩) (kt.h a w F H xq h1 h2))⟩
theorem qK (kt:J n X N w0 L D tt CC K):J n X N w0 L D tt CC (wpList P ops (Exit.then (λa' w'=>(∃ D',Sep X N w0 w' D')/\K a' w') QF) []):=⟨λa w F H xq h1 h2=>⟨⟨_,H⟩,kt.h a w F H xq h1 h2⟩⟩
theorem xHb (th:∀ {w},Sep X' N' w1 w D->Sep X N w0 w D0) (kt:J n X' N' w1 L D tt CC K):J n X' N' w1 L D tt CC (wpList P ops (Exit.then (λa' w'=>(∃ D',Sep X N w0 w' D')/\K a' w') QF) []):=⟨λa w F H xq h1 h2=>⟨⟨_,th H⟩,kt.h a w F H xq h1 h2⟩⟩
theorem eG (th:∀ {w},Sep X' N' w1 w D->Sep X N w0 w D0) (i1 i2:Nat) {o1 o2:Oper} (qa:ops[i1]?=some o1) (qc:ops[i2]?=some o2) (k1:J n X' N' w1 L D tt CC (wpList P ops (Exit.then (λa' w'=>(∃ D',Sep X N w0 w' D')/\zB P ops K (Sm N) f (ls.setIfInBounds i1 true) a' w') QF) [o1])) (k2:J n X' N' w1 L D tt CC (wpList P ops (Exit.then (λa' w'=>(∃ D',Sep X N w0 w' D')/\zB P ops K (Sm N) f (ls.setIfInBounds i2 true) a' w') QF) [o2])) (hr:Region.ready .any ops ls=[i1,i2]:=by kernel_rfl):J n X' N' w1 L D tt CC (zB P ops K (Sm N) (f+1) ls):=⟨λa w F H xq h1 h2=>oHp [i1,i2] hr (by simp) ⟨⟨_,qa,xEs (th H) (k1.h a w F H xq h1 h2)⟩,⟨_,qc,xEs (th H) (k2.h a w F H xq h1 h2)⟩,trivial⟩⟩
theorem xKa (th:∀ {w},Sep X' N' w1 w D->Sep X N w0 w D0) (i1 i2 i3:Nat) {o1 o2 o3:Oper} (qa:ops[i1]?=some o1) (qc:ops[i2]?=some o2) (qd:ops[i3]?=some o3) (k1:J n X' N' w1 L D tt CC (wpList P ops (Exit.then (λa' w'=>(∃ D',Sep X N w0 w' D')/\zB P ops K (Sm N) f (ls.setIfInBounds i1 true) a' w') QF) [o1])) (k2:J n X' N' w1 L D tt CC (wpList P ops (Exit.then (λa' w'=>(∃ D',Sep X N w0 w' D')/\zB P ops K (Sm N) f (ls.setIfInBounds i2 true) a' w') QF) [o2])) (k3:J n X' N' w1 L D tt CC (wpList P ops (Exit.then (λa' w'=>(∃ D',Sep X N w0 w' D')/\zB P ops K (Sm N) f (ls.setIfInBounds i3 true) a' w') QF) [o3])) (hr:Region.ready .any ops ls=[i1,i2,i3]:=by kernel_rfl):J n X' N' w1 L D tt CC (zB P ops K (Sm N) (f+1) ls):=⟨λa w F H xq h1 h2=>oHp [i1,i2,i3] hr (by simp) ⟨⟨_,qa,xEs (th H) (k1.h a w F H xq h1 h2)⟩,⟨_,qc,xEs (th H) (k2.h a w F H xq h1 h2)⟩,⟨_,qd,xEs (th H) (k3.h a w F H xq h1 h2)⟩,trivial⟩⟩
theorem oKs (th:∀ {w},Sep X' N' w1 w D->Sep X N w0 w D0) (i1 i2 i3 i4:Nat) {o1 o2 o3 o4:Oper} (qa:ops[i1]?=some o1) (qc:ops[i2]?=some o2) (qd:ops[i3]?=some o3) (qe:ops[i4]?=some o4) (k1:J n X' N' w1 L D tt CC (wpList P ops (Exit.then (λa' w'=>(∃ D',Sep X N w0 w' D')/\zB P ops K (Sm N) f (ls.setIfInBounds i1 true) a' w') QF) [o1])) (k2:J n X' N' w1 L D tt CC (wpList P ops (Exit.then (λa' w'=>(∃ D',Sep X N w0 w' D')/\zB P ops K (Sm N) f (ls.setIfInBounds i2 true) a' w') QF) [o2])) (k3:J n X' N' w1 L D tt CC (wpList P ops (Exit.then (λa' w'=>(∃ D',Sep X N w0 w' D')/\zB P ops K (Sm N) f (ls.setIfInBounds i3 true) a' w') QF) [o3])) (k4:J n X' N' w1 L D tt CC (wpList P ops (Exit.then (λa' w'=>(∃ D',Sep X N w0 w' D')/\zB P ops K (Sm N) f (ls.setIfInBounds i4 true) a' w') QF) [o4])) (hr:Region.ready .any ops ls=[i1,i2,i3,i4]:=by kernel_rfl):J n X' N' w1 L D tt CC (zB P ops K (Sm N) (f+1) ls):=⟨λa w F H xq h1 h2=>oHp [i1,i2,i3,i4] hr (by simp) ⟨⟨_,qa,xEs (th H) (k1.h a w F H xq h1 h2)⟩,⟨_,qc,xEs (th H) (k2.h a w F H xq h1 h2)⟩,⟨_,qd,xEs (th H) (k3.h a w F H xq h1 h2)⟩,⟨_,qe,xEs (th H) (k4.h a w F H xq h1 h2)⟩,trivial⟩⟩
theorem jdp {f f':Nat} {ls ls0:Array Bool} (I:Tl (List (Nat×Vl)) (List As)) (h:I.all λS E=>J n X N w0 S E tt CC (zB P ops K (Sm M) f ls)) (k:(∀ {L D ls'},(I.any λS E=>Ls L S E D)->(hl:ls'=ls:=by kernel_rfl)->J n X N w0 L D tt CC (zB P ops K (Sm M) f ls'))->J n X N w0 L D tt CC (zB P ops K (Sm M) f' ls0)):J n X N w0 L D tt CC (zB P ops K (Sm M) f' ls0):= k (λ{L D ls'} hi hl=>⟨λa w F H xq h1 h2=>hl ▸ hi.go h (λS E hs hJ=>hJ.h a w (F.sub hs.2) (hs.1 ▸ H) xq h1 h2)⟩)
theorem Sep.gt {f:List As->List As} {w':Wd} (H:Sep X N w0 w D) (S:Sep [] M w w' (f [])) (hf:∀ D,f D=f []++D) (hs:Ns N (f [])):Sep X N w0 w' (f D):=by
 rw[hf D];exact H.ret S hs.all
theorem Gt.gv {I:Tl Vl (List As->List As)} {e:Ending} {w':Wd} (h:Gt M w X I e w'):Gv (λv w'=>I.any λu h=>v=u/\Sep X M w w' (h [])/\∀ D,h D=h []++D) e w':=by
 cases e with
 | returned v=>exact⟨v,rfl,h.map (λu f h=>⟨by injection h.1,h.2⟩)⟩
 | _=>obtain⟨x,y,h⟩:=h.some;exact nomatch h.1
theorem jk {xs:List Operand} {at':Array Ty} {vs:List Vl} {M:Wd->Nat->Prop} {I:Tl Vl (List As->List As)} [hf:Cf P fi] (cl:∀ {w},Sep X N w0 w D->Calls P fi vs.toArray w (Gt (M w) w [] I)) (kt:I.all λv h=>J n X N w0 ((d,v)::L) (h D) tt CC (wpList P ops Q rest)) (hc:vO ops n L g d=true:=by rfl) (e:evs L xs=some vs:=by rfl) (hs:I.all λv h=>Ns N (h []):=by repeat (first | exact trivial | refine⟨n0,?_⟩ | refine⟨n1,?_⟩ | intro)) : J n X N w0 L D tt CC (wpList P ops Q (⟨some d,.call ⟨.value (.func fi),xs.toArray,at'⟩,ty,pos,af,g⟩::rest)):=⟨λa w F H xq h1 h2=>oG F hc hf.h e ((cl H).mono (λe w' h=>h.gv)) (λa' v w' hv F'=>hv.go (hs.and kt) (λu f hu hj=>by
 obtain⟨rfl,S,qa⟩:=hu
 exact hj.2.h a' w' F' (H.gt S qa hj.1) xq h1 h2))⟩
theorem jkV {c:Operand} {lb:List Vl} {xs:List Operand} {at':Array Ty} {vs:List Vl} {M:Wd->Nat->Prop} {I:Tl Vl (List As->List As)} (hf:∀ args w,(callFunc fi args).run P w= .ok (.enter fi args) w) (hh:ev L c=some (.func (.func fi) #[] lb.toArray)/\evs L xs=some vs) (cl:∀ {w},Sep X N w0 w D->Calls P fi (vs++lb).toArray w (Gt (M w) w [] I)) (kt:I.all λv h=>J n X N w0 ((d,v)::L) (h D) tt CC (wpList P ops Q rest)) (hc:vO ops n L g d=true:=by rfl) (hs:I.all λv h=>Ns N (h []):=by repeat (first | exact trivial | refine⟨n0,?_⟩ | refine⟨n1,?_⟩ | intro)) : J n X N w0 L D tt CC (wpList P ops Q (⟨some d,.call ⟨.value c,xs.toArray,at'⟩,ty,pos,af,g⟩::rest)):=⟨λa w F H xq h1 h2=>oGV F hc hh.1 hf hh.2 ((cl H).mono (λe w' h=>h.gv)) (λa' v w' hv F'=>hv.go (hs.and kt) (λu f hu hj=>by
 obtain⟨rfl,S,qa⟩:=hu
 exact hj.2.h a' w' F' (H.gt S qa hj.1) xq h1 h2))⟩
def Tl.le {α β:Type}:Tl α β->Tl α β->Prop | .ex (γ:=γ) f,.ex (γ:=δ) g=>∃ h:γ=δ,∀ b,(f b).le (g (h ▸ b)) | .fa p i,.fa q j=>(p->q)/\i.le j | .st x y,.st x' y'=>x=x'/\y=y' | _,_=>False
theorem Tl.any.le {α β:Type} {K:α->β->Prop}:∀ {i j:Tl α β},i.any K->i.le j->j.any K
 | .ex f,.ex g,⟨b,h⟩,⟨e,l⟩=>by subst e;exact⟨b,Tl.any.le h (l b)⟩
 | .fa _ _,.fa _ _,⟨p,h⟩,⟨l,m⟩=>⟨l p,Tl.any.le h m⟩
 | .st _ _,.st _ _,h,l=>by obtain⟨rfl,rfl⟩:=l;exact h
theorem jkB {xs:List Operand} {at':Array Ty} {vs:List Vl} {I:Wd->Tl Vl (List As->List As)} [hf:Cf P fi] (cl:∀ {w},Sep X N w0 w D->Calls P fi vs.toArray w (Gt N w [] (I w))) (kt:(I w0).all λv h=>J n X N w0 ((d,v)::L) (h D) tt CC (wpList P ops Q rest)) (hc:vO ops n L g d=true:=by rfl) (e:evs L xs=some vs:=by rfl) (hs:(I w0).all λv h=>Ns N (h []):=by repeat (first | exact trivial | refine⟨n0,?_⟩ | refine⟨n1,?_⟩ | intro)) (hd:∀ {w},Sep X N w0 w D->(I w).le (I w0):=by intro _ H;repeat (first | exact⟨rfl,rfl⟩ | refine⟨rfl,λ_=>?_⟩ | refine⟨λh=>H.dn h,?_⟩ | refine⟨id,?_⟩)) : J n X N w0 L D tt CC (wpList P ops Q (⟨some d,.call ⟨.value (.func fi),xs.toArray,at'⟩,ty,pos,af,g⟩::rest)):=⟨λa w F H xq h1 h2=>oG F hc hf.h e ((cl H).mono (λe w' h=>h.gv)) (λa' v w' hv F'=>(hv.le (hd H)).go (hs.and kt) (λu f hu hj=>by
 obtain⟨rfl,S,qa⟩:=hu
 exact hj.2.h a' w' F' (H.gt S qa hj.1) xq h1 h2))⟩
class Spl (m:Nat) (D:List As) (K E:outParam (List As)):Prop where
  h:D=K++E
instance {D:List As}:Spl 0 D [] D:=⟨rfl⟩
instance {m:Nat} {A:As} {D K E:List As} [h:Spl m D K E]:Spl (m+1) (A::D) (A::K) E:=⟨by rw[h.h,List.cons_append]⟩
theorem jko (m:Nat) {xs:List Operand} {at':Array Ty} {vs:List Vl} {Kd E:List As} {I:Tl Vl (List As->List As)} [hf:Cf P fi] [hm:Spl m D Kd E] (cl:∀ {w X1},Sep X1 N w w Kd->Sep X N w0 w D->Calls P fi vs.toArray w (Gt N w X1 I)) (kt:I.all λv h=>J n X N w0 ((d,v)::L) (h E) tt CC (wpList P ops Q rest)) (hc:vO ops n L g d=true:=by rfl) (e:evs L xs=some vs:=by rfl) : J n X N w0 L D tt CC (wpList P ops Q (⟨some d,.call ⟨.value (.func fi),xs.toArray,at'⟩,ty,pos,af,g⟩::rest)):=⟨λa w F H xq h1 h2=>by
 obtain⟨X1,S1,bk⟩:=Sep.lend (K:=Kd) (L:=E) (hm.h ▸ H)
 exact oG F hc hf.h e ((cl S1 H).mono (λe w' h=>h.gv)) (λa' v w' hv F'=>hv.go kt (λu f hu hj=>by
  obtain⟨rfl,S,qa⟩:=hu
  exact hj.h a' w' F' (by rw[qa E];exact bk S) xq h1 h2))⟩
theorem jt {t':Option ρ} (e:tt=t') (kt:J n X N w0 L D t' CC G):J n X N w0 L D tt CC G:=e ▸ kt
theorem jig {cc:Operand} {b:Bool} {x y:Code} (ht:b=true->J n X N w0 L D tt CC (x.wp P Q)) (hf:b=false->J n X N w0 L D tt CC (y.wp P Q)) (e:ev L cc=some (.bool b):=by rfl):J n X N w0 L D tt CC ((Code.cond cc x y).wp P Q):=⟨λa w F H r h1 h2=>by
 cases b with
 | true=>exact oBh F e ((ht rfl).h a w F H r h1 h2)
 | false=>exact xZv F e ((hf rfl).h a w F H r h1 h2)⟩
theorem jvC (ii:Nat) {α:Type} {sz:Nat} {R:ER α} [hR:FrC sz R] {t e:Ty} {v:Vl} {l r:List α} {i j:Int} {lo hi:Option Operand} (qa:ops[ii]?=some ⟨some d,.slice t x lo hi none,ty,pos,af,g⟩) [ht:Ug P t (.slice e)] [qc:Sz P e sz] (h:Bo M w1 (Sl sz R) v l) (hs:sl l i j=some r) (kt:∀ v',Bo M w1 (Sl sz R) v' r->J n X N w0 ((d,v')::L) D tt CC (zB P ops K (Sm Mv) f (ls.setIfInBounds ii true))) (hc:vO ops n L g d=true:=by rfl) (he:ev L x=some v:=by rfl) (qd:(match (generalizing:=false) lo with | some y=>ev L y=some (.int .i64 i) | none=>i=0):=by rfl) (qe:(match (generalizing:=false) hi with | some y=>ev L y=some (.int .i64 j) | none=>j=l.length):=by rfl) (hb:bqc ops ls ii true=true:=by kernel_rfl):J n X N w0 L D tt CC (zB P ops K (Sm Mv) (f+1) ls):=⟨λa w F H xq h1 h2=>bq hb qa (vC ht.h qc.h F hc he qd qe h hs (λa' v' hv F'=>(kt v' hv).h a' w F' H xq h1 h2))⟩
theorem xTv.of_gt {v:Vl} {e:Ending} {w':Wd} {h:List As->List As} (hg:Gt M w [] (.st v h) e w'):xTv v w e w':=⟨hg.1,hg.2.1.bl⟩
theorem jqk {xs:List Operand} {at':Array Ty} {vs:List Vl} {v:Vl} {h:List As->List As} {M:Wd->Nat->Prop} [hf:Cf P fi] (cl:∀ {w},Sep X N w0 w D->Calls P fi vs.toArray w (Gt (M w) w [] (.st v h))) (kt:J n X N w0 ((d,v)::L) D tt CC (Gq P ops X N w0 D K rest)) (hc:vO ops n L g d=true:=by rfl) (e:evs L xs=some vs:=by rfl):J n X N w0 L D tt CC (Gq P ops X N w0 D K (⟨some d,.call ⟨.value (.func fi),xs.toArray,at'⟩,ty,pos,af,g⟩::rest)):=⟨λa w F H xq h1 h2=>oBd F hc hf.h e (λw w' h l=>l.through h) (λw' l=>(cl (H.go l)).mono (λe w'' h=>xTv.of_gt h)) (λa' F'=>kt.h a' w F' H xq h1 h2)⟩
theorem jqkI {xs:List Operand} {at':Array Ty} {vs:List Vl} {v:Vl} {p:Prop} {h:List As->List As} {M:Wd->Nat->Prop} [hf:Cf P fi] (hp:p) (cl:∀ {w},Sep X N w0 w D->Calls P fi vs.toArray w (Gt (M w) w [] (.fa p (.st v h)))) (kt:J n X N w0 ((d,v)::L) D tt CC (Gq P ops X N w0 D K rest)) (hc:vO ops n L g d=true:=by rfl) (e:evs L xs=some vs:=by rfl):J n X N w0 L D tt CC (Gq P ops X N w0 D K (⟨some d,.call ⟨.value (.func fi),xs.toArray,at'⟩,ty,pos,af,g⟩::rest)):=⟨λa w F H xq h1 h2=>oBd F hc hf.h e (λw w' h l=>l.through h) (λw' l=>(cl (H.go l)).mono (λe w'' h=>xTv.of_gt h.2)) (λa' F'=>kt.h a' w F' H xq h1 h2)⟩
theorem xRo {xs:List Operand} {at':Array Ty} {vs:List Vl} {v:Vl} {p:Prop} {h:List As->List As} {M:Wd->Nat->Prop} [hf:Cf P fi] (cl:∀ {w},Sep X N w0 w D->Calls P fi vs.toArray w (Gt (M w) w [] (.fa p (.st v h)))) (kt:p->J n X N w0 ((d,v)::L) D tt CC (Gq P ops X N w0 D K rest)) (hc:vO ops n L g d=true:=by rfl) (e:evs L xs=some vs:=by rfl):J n X N w0 L D tt CC (Gq P ops X N w0 D K (⟨some d,.call ⟨.value (.func fi),xs.toArray,at'⟩,ty,pos,af,g⟩::rest)):=⟨λa w F H xq h1 h2=>
 let ⟨_,_,hh⟩:=Calls.some (cl H);(jqkI hh.1 cl (kt hh.1) hc e).h a w F H xq h1 h2⟩
theorem oIl {α:Type} {sz:Nat} {R:ER α} {t:Ty} {v:Vl} {l:List α} {e:Ty} [ht:Ug P t (.slice e)] (h:∀ {w},Sep X N w0 w D->Bo (All w) w (Sl sz R) v l) (kt:xL (l.length:Int)->J n X N w0 ((d,.int .i64 l.length)::L) D tt CC (Gq P ops X N w0 D K rest)) (hc:vO ops n L g d=true:=by rfl) (he:ev L x=some v:=by rfl):J n X N w0 L D tt CC (Gq P ops X N w0 D K (⟨some d,.call ⟨.builtin .len,#[x],#[t]⟩,ty,pos,af,g⟩::rest)):=⟨λa w F H xq h1 h2=>qL ht.h F hc he (h H) (λa' i F'=>(kt i).h a' w F' H xq h1 h2)⟩
theorem jLc {α:Type} {sz:Nat} {R:ER α} {t:Ty} {v:Vl} {l:List α} {e:Ty} [ht:Ug P t (.slice e)] (h:∀ {w},Sep X N w0 w D->Bo (All w) w (Sl sz R) v l) (kt:xL (l.length:Int)->J n X N w0 ((d,.int .i64 l.length)::L) D tt CC (wpList P ops Q rest)) (hc:vO ops n L g d=true:=by rfl) (he:ev L x=some v:=by rfl):J n X N w0 L D tt CC (wpList P ops Q (⟨some d,.call ⟨.builtin .len,#[x],#[t]⟩,ty,pos,af,g⟩::rest)):=⟨λa w F H xq h1 h2=>oL ht.h F hc he (h H) (λa' i F'=>(kt i).h a' w F' H xq h1 h2)⟩
theorem qT {e:ρ} {I:ρ->Tl Vl (List As->List As)} {v1:Vl} (h1:Rs P n X N w0 L [] r1 v1) (h:(I e).any λv f=>Lv v v1 f []) (hr:fn.results = #[r1]:=by rfl):J n X N w0 L D (some e) (Cq I N w0 X R) (bodyPost P fn R .ret):=js [] rfl (j1 h1 h hr)
theorem jno:J n X N w0 L D (none:Option ρ) CC G:=⟨λ_ _ _ _ _ h1 _=>nomatch h1⟩
theorem jev (i:Nat) {v u:Vl} (hv:v=u) (h:J n X N w0 ((i,u)::L) D tt CC G) (e:sL L i=some v:=by rfl):J n X N w0 L D tt CC G:=⟨λa w F=>h.h a w (F.eq e hv)⟩
theorem dA (i:Nat) {tm b sz:Nat} {T T':Ty} {cs:List Vl} [qa:Ag P T true] [hsz:Sz P T sz] (hh:sL L tm=some (.pointer (some ⟨b,0,none⟩))/\D[i]?=some (bx b cs T')) (hl:cs.length=sz:=by rfl):Rs P n X N w0 L D (.cell tm T) (.agg cs.toArray):=λa w F H=>oFs F qa.h (λw=>by rw[Ew,hl];exact hsz.h w) hh.1 (H.b i hh.2)
theorem jqbK {t:Ty} {b o:Nat} {v:Vl} {cs:List Vl} {T:Ty} [hag:Ag P t false] (hK:Bk N w0 b cs T) (hh:ev L x=some (.pointer (some ⟨b,o,none⟩))/\cs[o]?=some v) (kt:J n X N w0 ((d,v)::L) D tt CC (Gq P ops X N w0 D K rest)) (hc:vO ops n L g d=true:=by rfl):J n X N w0 L D tt CC (Gq P ops X N w0 D K (⟨some d,.load t x,ty,pos,af,g⟩::rest)):=⟨λa w F H xq h1 h2=>qB hag.h F hc hh.1 (λw l=>hK.o (H.q w l)) hh.2 (λa' F'=>kt.h a' w F' H xq h1 h2)⟩
theorem j1m {e:ρ} {I:ρ->Tl Vl (List As->List As)} {v1:Vl} (th:∀ {w},Sep X N w0 w D->Sep X N w0 w D') (h1:Rs P n X N w0 L D r1 v1) (h:(I e).any λv f=>Lv v v1 f D') (hr:fn.results = #[r1]:=by rfl):J n X N w0 L D (some e) (Cq I N w0 X R) (bodyPost P fn R .ret):=⟨λa w F H x hx hc=>by
 cases hx
 exact xPd F hr (h1 a w F H) (hc _ _ (h.map (λv f h=>⟨congrArg _ h.1.symm,by rw[h.2,Cd];exact th H,λE=>by rw[h.2,h.2,Cd]⟩)))⟩
theorem nJ {e:ρ} {I:ρ->Tl Vl (List As->List As)} {r2:ResultVar} {v1 v2:Vl} (th:∀ {w},Sep X N w0 w D->Sep X N w0 w D') (h1:Rs P n X N w0 L D r1 v1) (h2:Rs P n X N w0 L D r2 v2) (h:(I e).any λv f=>Lv v (.tuple #[v1,v2]) f D') (hr:fn.results = #[r1,r2]:=by rfl):J n X N w0 L D (some e) (Cq I N w0 X R) (bodyPost P fn R .ret):=⟨λa w F H x hx hc=>by
 cases hx
 exact xXy F hr (h1 a w F H) (h2 a w F H) (hc _ _ (h.map (λv f h=>⟨congrArg _ h.1.symm,by rw[h.2,Cd];exact th H,λE=>by rw[h.2,h.2,Cd]⟩)))⟩
theorem j3m {e:ρ} {I:ρ->Tl Vl (List As->List As)} {r2 r3:ResultVar} {v1 v2 v3:Vl} (th:∀ {w},Sep X N w0 w D->Sep X N w0 w D') (h1:Rs P n X N w0 L D r1 v1) (h2:Rs P n X N w0 L D r2 v2) (h3:Rs P n X N w0 L D r3 v3) (h:(I e).any λv f=>Lv v (.tuple #[v1,v2,v3]) f D') (hr:fn.results = #[r1,r2,r3]:=by rfl):J n X N w0 L D (some e) (Cq I N w0 X R) (bodyPost P fn R .ret):=⟨λa w F H x hx hc=>by
 cases hx
 exact xYe F hr (h1 a w F H) (h2 a w F H) (h3 a w F H) (hc _ _ (h.map (λv f h=>⟨congrArg _ h.1.symm,by rw[h.2,Cd];exact th H,λE=>by rw[h.2,h.2,Cd]⟩)))⟩
theorem jRI {t e:Ty} {z:Vl} {parts:Array (Nat×Operand)} {m:Nat} (l:List Int) [ht:Ug P t (.slice e)] [hsz:Sz P e 1] [hz:Zv P e z] (hI:∀ y∈l,xL y) (kt:∀ v,J n X N w0 ((d,v)::L) (rl 1 xF e v l::D) tt CC (wpList P ops Q rest)) (qa:z.cells.size=1:=by rfl) (hc:vO ops n L g d=true:=by rfl) (hp:parts.toList=(List.range' 0 (parts.toList.map Prod.snd).length).zip (parts.toList.map Prod.snd):=by rfl) (hm:m=l.length:=by rfl) (qc:Nat.ble l.length 1000=true:=by rfl) (qd:Nat.blt 0 l.length=true:=by rfl) (hx:evs L (parts.toList.map Prod.snd)=some (l.map (Value.int .i64)):=by rfl):J n X N w0 L D tt CC (wpList P ops Q (⟨some d,.buildSlice t m parts,ty,pos,af,g⟩::rest)):=⟨λa w F H xq h1 h2=>oRI ht.h hsz.h hz.h qa F hc hp hm qc qd hx hI H (λa' w' v H' F'=>(kt v).h a' w' F' H' xq h1 h2)⟩
theorem cZ (kt:∀ w1 X1 N1,Sm N w0 w1->Rdg N1 w1 A->Lf N w0 N1 w1->((∀ {w':Wd} {K:List As},Sep X1 N1 w1 w' K->(∀ B∈K,∀ c,B.N c->N c)->Sep X N w0 w' (A::K))/\(∀ {w':Wd} {K:List As} {α:Type} {V:VR α} [VF V] {v:Vl} {x:α},Sep X1 N1 w1 w' (ro N1 (V:=V) v x::K)->(∀ B∈K,∀ c,B.N c->N c)->Sep X N w0 w' (ro N (V:=V) v x::K))/\(∀ c,N c->N1 c))->(∀ {f:(Nat->Prop)->As},Ab f->∀ {w':Wd} {K:List As},Sep X1 N1 w1 w' (f N1::K)->(∀ B∈K,∀ c,B.N c->N c)->Sep X N w0 w' (f N::K))->J n X1 N1 w1 L D tt CC G):J n X N w0 L (A::D) tt CC G:=⟨λa w F H xq h1 h2=>
 let ⟨X1,N1,g,e,H1,th,ab⟩:=H.fza
 (kt w X1 N1 H.sm g e th ab).h a w F H1 xq h1 h2⟩
theorem aI {G':Prop} {X1:List Nat} {N1:Nat->Prop} (th:(∀ {w':Wd} {K:List As},Sep X1 N1 w1 w' K->(∀ B∈K,∀ c,B.N c->N c)->Sep X N w0 w' (A::K))/\G') (kt:J n X N w0 L (A::D) tt CC G) (hs:Ns N D:=by repeat (first | exact trivial | refine⟨n0,?_⟩ | refine⟨n1,?_⟩)):J n X1 N1 w1 L D tt CC G:=⟨λa w F H=>kt.h a w F (th.1 H hs.all)⟩
end
end
section
open Go.RowKit
section
variable {P:Program} {n:Nat} {X:List Nat} {N:Nat->Prop} {w0:Wd} {L:List (Nat×Vl)} {D:List As} {ρ:Type} {tt:Option ρ} {CC:ρ->Prop}
theorem wJ {i1:Nat} {K2:Act->Wd->Prop} {Q3:Exit->Act->Wd->Prop} (h:J n X N w0 L D tt CC (K2)):J n X N w0 L D tt CC (Exit.inBlock i1 (Exit.then K2 Q3) (.exit i1)):=⟨λa w F H x p q=>(xTy (aQ (h.h a w F H x p q)))⟩
theorem oFu {i1:Nat} {K2:Act->Wd->Prop} {Q3:Exit->Act->Wd->Prop} (h:J n X N w0 L D tt CC (K2)):J n X N w0 L D tt CC (Code.skip.wp P (Exit.inBlock i1 (Exit.then K2 Q3))):=⟨λa w F H x p q=>(iR (xMk (aQ (h.h a w F H x p q))))⟩
theorem qJ {i1:Nat} {Q5:Exit->Act->Wd->Prop} {i2:Nat} {l3:List Oper} {Q4:Exit->Act->Wd->Prop} (h:J n X N w0 L D tt CC (wpList P l3.toArray Q4 l3)):J n X N w0 L D tt CC (Code.skip.wp P (Exit.inBlock i1 (Exit.then ((Code.region i2 l3.toArray false).wp P Q4) Q5))):=⟨λa w F H x p q=>(iR (xMk (aQ (bX (h.h a w F H x p q)))))⟩
theorem wB {i1:Nat} {Q6:Exit->Act->Wd->Prop} {c4:Code} {Q5:Exit->Act->Wd->Prop} {i2:Nat} {l3:List Oper} (h:J n X N w0 L D tt CC (wpList P l3.toArray (Exit.then (c4.wp P Q5) Q5) l3)):J n X N w0 L D tt CC (Code.skip.wp P (Exit.inBlock i1 (Exit.then ((Code.seq (Code.region i2 l3.toArray false) c4).wp P Q5) Q6))):=⟨λa w F H x p q=>(iR (xMk (aQ (kR (bX (h.h a w F H x p q))))))⟩
theorem oAx {i1:Nat} {Q7:Exit->Act->Wd->Prop} {c5:Code} {Q6:Exit->Act->Wd->Prop} {c4:Code} {i2:Nat} {l3:List Oper} (h:J n X N w0 L D tt CC (wpList P l3.toArray (Exit.then (c4.wp P (Exit.then (c5.wp P Q6) Q6)) (Exit.then (c5.wp P Q6) Q6)) l3)):J n X N w0 L D tt CC (Code.skip.wp P (Exit.inBlock i1 (Exit.then ((Code.seq (Code.seq (Code.region i2 l3.toArray false) c4) c5).wp P Q6) Q7))):=⟨λa w F H x p q=>(iR (xMk (aQ (kR (kR (bX (h.h a w F H x p q)))))))⟩
theorem xTx {K1:Act->Wd->Prop} {Q2:Exit->Act->Wd->Prop} (h:J n X N w0 L D tt CC (K1)):J n X N w0 L D tt CC (Code.skip.wp P (Exit.then K1 Q2)):=⟨λa w F H x p q=>(iR (aQ (h.h a w F H x p q)))⟩
theorem xUh {Q4:Exit->Act->Wd->Prop} {i1:Nat} {l2:List Oper} {Q3:Exit->Act->Wd->Prop} (h:J n X N w0 L D tt CC (wpList P l2.toArray Q3 l2)):J n X N w0 L D tt CC (Code.skip.wp P (Exit.then ((Code.region i1 l2.toArray false).wp P Q3) Q4)):=⟨λa w F H x p q=>(iR (aQ (bX (h.h a w F H x p q))))⟩
theorem oGf {Q5:Exit->Act->Wd->Prop} {i1:Nat} {Q4:Exit->Act->Wd->Prop} {i2:Nat} {l3:List Oper} (h:J n X N w0 L D tt CC (wpList P l3.toArray (Exit.inBlock i1 Q4) l3)):J n X N w0 L D tt CC (Code.skip.wp P (Exit.then ((Code.block i1 (Code.region i2 l3.toArray false)).wp P Q4) Q5)):=⟨λa w F H x p q=>(iR (aQ (rZ (bX (h.h a w F H x p q)))))⟩
theorem xCj {Q6:Exit->Act->Wd->Prop} {i1:Nat} {Q5:Exit->Act->Wd->Prop} {c4:Code} {i2:Nat} {l3:List Oper} (h:J n X N w0 L D tt CC (wpList P l3.toArray (Exit.then (c4.wp P (Exit.inBlock i1 Q5)) (Exit.inBlock i1 Q5)) l3)):J n X N w0 L D tt CC (Code.skip.wp P (Exit.then ((Code.block i1 (Code.seq (Code.region i2 l3.toArray false) c4)).wp P Q5) Q6)):=⟨λa w F H x p q=>(iR (aQ (rZ (kR (bX (h.h a w F H x p q))))))⟩
theorem xY {Q4:Exit->Act->Wd->Prop} {c1:Code} {c2:Code} {Q3:Exit->Act->Wd->Prop} (h:J n X N w0 L D tt CC (c1.wp P (Exit.then (c2.wp P Q3) Q3))):J n X N w0 L D tt CC (Code.skip.wp P (Exit.then ((Code.seq c1 c2).wp P Q3) Q4)):=⟨λa w F H x p q=>(iR (aQ (kR (h.h a w F H x p q))))⟩
theorem qR {Q5:Exit->Act->Wd->Prop} {c3:Code} {Q4:Exit->Act->Wd->Prop} {i1:Nat} {l2:List Oper} (h:J n X N w0 L D tt CC (wpList P l2.toArray (Exit.then (c3.wp P Q4) Q4) l2)):J n X N w0 L D tt CC (Code.skip.wp P (Exit.then ((Code.seq (Code.region i1 l2.toArray false) c3).wp P Q4) Q5)):=⟨λa w F H x p q=>(iR (aQ (kR (bX (h.h a w F H x p q)))))⟩
theorem xYg {Q5:Exit->Act->Wd->Prop} {c3:Code} {Q4:Exit->Act->Wd->Prop} {i1:Nat} {c2:Code} (h:J n X N w0 L D tt CC (c2.wp P (Exit.inBlock i1 (Exit.then (c3.wp P Q4) Q4)))):J n X N w0 L D tt CC (Code.skip.wp P (Exit.then ((Code.seq (Code.block i1 c2) c3).wp P Q4) Q5)):=⟨λa w F H x p q=>(iR (aQ (kR (rZ (h.h a w F H x p q)))))⟩
theorem xOs {Q6:Exit->Act->Wd->Prop} {c4:Code} {Q5:Exit->Act->Wd->Prop} {i1:Nat} {i2:Nat} {l3:List Oper} (h:J n X N w0 L D tt CC (wpList P l3.toArray (Exit.inBlock i1 (Exit.then (c4.wp P Q5) Q5)) l3)):J n X N w0 L D tt CC (Code.skip.wp P (Exit.then ((Code.seq (Code.block i1 (Code.region i2 l3.toArray false)) c4).wp P Q5) Q6)):=⟨λa w F H x p q=>(iR (aQ (kR (rZ (bX (h.h a w F H x p q))))))⟩
theorem nK {Q7:Exit->Act->Wd->Prop} {c5:Code} {Q6:Exit->Act->Wd->Prop} {i1:Nat} {c4:Code} {i2:Nat} {l3:List Oper} (h:J n X N w0 L D tt CC (wpList P l3.toArray (Exit.then (c4.wp P (Exit.inBlock i1 (Exit.then (c5.wp P Q6) Q6))) (Exit.inBlock i1 (Exit.then (c5.wp P Q6) Q6))) l3)):J n X N w0 L D tt CC (Code.skip.wp P (Exit.then ((Code.seq (Code.block i1 (Code.seq (Code.region i2 l3.toArray false) c4)) c5).wp P Q6) Q7)):=⟨λa w F H x p q=>(iR (aQ (kR (rZ (kR (bX (h.h a w F H x p q)))))))⟩
theorem xLb {Q5:Exit->Act->Wd->Prop} {c3:Code} {Q4:Exit->Act->Wd->Prop} {c1:Code} {c2:Code} (h:J n X N w0 L D tt CC (c1.wp P (Exit.then (c2.wp P (Exit.then (c3.wp P Q4) Q4)) (Exit.then (c3.wp P Q4) Q4)))):J n X N w0 L D tt CC (Code.skip.wp P (Exit.then ((Code.seq (Code.seq c1 c2) c3).wp P Q4) Q5)):=⟨λa w F H x p q=>(iR (aQ (kR (kR (h.h a w F H x p q)))))⟩
theorem vT {Q6:Exit->Act->Wd->Prop} {c4:Code} {Q5:Exit->Act->Wd->Prop} {c3:Code} {i1:Nat} {l2:List Oper} (h:J n X N w0 L D tt CC (wpList P l2.toArray (Exit.then (c3.wp P (Exit.then (c4.wp P Q5) Q5)) (Exit.then (c4.wp P Q5) Q5)) l2)):J n X N w0 L D tt CC (Code.skip.wp P (Exit.then ((Code.seq (Code.seq (Code.region i1 l2.toArray false) c3) c4).wp P Q5) Q6)):=⟨λa w F H x p q=>(iR (aQ (kR (kR (bX (h.h a w F H x p q))))))⟩
theorem oAj {i1:Nat} {K2:Act->Wd->Prop} {Q3:Exit->Act->Wd->Prop} (h:J n X N w0 L D tt CC (K2)):J n X N w0 L D tt CC (Exit.inBlock i1 (Exit.then K2 Q3) .normal):=⟨λa w F H x p q=>(xMk (aQ (h.h a w F H x p q)))⟩
theorem aH {i1:Nat} {Q5:Exit->Act->Wd->Prop} {i2:Nat} {l3:List Oper} {Q4:Exit->Act->Wd->Prop} (h:J n X N w0 L D tt CC (wpList P l3.toArray Q4 l3)):J n X N w0 L D tt CC (Exit.inBlock i1 (Exit.then ((Code.region i2 l3.toArray false).wp P Q4) Q5) .normal):=⟨λa w F H x p q=>(xMk (aQ (bX (h.h a w F H x p q))))⟩
theorem lD {K1:Act->Wd->Prop} {Q2:Exit->Act->Wd->Prop} (h:J n X N w0 L D tt CC (Q2 .ret)):J n X N w0 L D tt CC (Exit.then K1 Q2 .ret):=⟨λa w F H x p q=>(uT (h.h a w F H x p q))⟩
theorem a_RR {K1:Act->Wd->Prop} {K2:Act->Wd->Prop} {Q3:Exit->Act->Wd->Prop} (h:J n X N w0 L D tt CC (Q3 .ret)):J n X N w0 L D tt CC (Exit.then K1 (Exit.then K2 Q3) .ret):=⟨λa w F H x p q=>(uT (uT (h.h a w F H x p q)))⟩
theorem xNc {o1:Array Oper} {i2:Nat} {K3:Act->Wd->Prop} {Q4:Exit->Act->Wd->Prop} (h:J n X N w0 L D tt CC (K3)):J n X N w0 L D tt CC (wpList P o1 (Exit.inBlock i2 (Exit.then K3 Q4)) []):=⟨λa w F H x p q=>(dU (xMk (aQ (h.h a w F H x p q))))⟩
theorem dQ {o1:Array Oper} {i2:Nat} {Q6:Exit->Act->Wd->Prop} {i3:Nat} {l4:List Oper} {Q5:Exit->Act->Wd->Prop} (h:J n X N w0 L D tt CC (wpList P l4.toArray Q5 l4)):J n X N w0 L D tt CC (wpList P o1 (Exit.inBlock i2 (Exit.then ((Code.region i3 l4.toArray false).wp P Q5) Q6)) []):=⟨λa w F H x p q=>(dU (xMk (aQ (bX (h.h a w F H x p q)))))⟩
theorem kD {o1:Array Oper} {K2:Act->Wd->Prop} {Q3:Exit->Act->Wd->Prop} (h:J n X N w0 L D tt CC (K2)):J n X N w0 L D tt CC (wpList P o1 (Exit.then K2 Q3) []):=⟨λa w F H x p q=>(dU (aQ (h.h a w F H x p q)))⟩
theorem lT {o1:Array Oper} {Q5:Exit->Act->Wd->Prop} {i2:Nat} {l3:List Oper} {Q4:Exit->Act->Wd->Prop} (h:J n X N w0 L D tt CC (wpList P l3.toArray Q4 l3)):J n X N w0 L D tt CC (wpList P o1 (Exit.then ((Code.region i2 l3.toArray false).wp P Q4) Q5) []):=⟨λa w F H x p q=>(dU (aQ (bX (h.h a w F H x p q))))⟩
theorem xJd {o1:Array Oper} {Q7:Exit->Act->Wd->Prop} {i2:Nat} {Q6:Exit->Act->Wd->Prop} {c5:Code} {i3:Nat} {l4:List Oper} (h:J n X N w0 L D tt CC (wpList P l4.toArray (Exit.then (c5.wp P (Exit.inBlock i2 Q6)) (Exit.inBlock i2 Q6)) l4)):J n X N w0 L D tt CC (wpList P o1 (Exit.then ((Code.block i2 (Code.seq (Code.region i3 l4.toArray false) c5)).wp P Q6) Q7) []):=⟨λa w F H x p q=>(dU (aQ (rZ (kR (bX (h.h a w F H x p q))))))⟩
theorem yD {o1:Array Oper} {Q5:Exit->Act->Wd->Prop} {c2:Code} {c3:Code} {Q4:Exit->Act->Wd->Prop} (h:J n X N w0 L D tt CC (c2.wp P (Exit.then (c3.wp P Q4) Q4))):J n X N w0 L D tt CC (wpList P o1 (Exit.then ((Code.seq c2 c3).wp P Q4) Q5) []):=⟨λa w F H x p q=>(dU (aQ (kR (h.h a w F H x p q))))⟩
theorem qW {o1:Array Oper} {Q6:Exit->Act->Wd->Prop} {c4:Code} {Q5:Exit->Act->Wd->Prop} {i2:Nat} {l3:List Oper} (h:J n X N w0 L D tt CC (wpList P l3.toArray (Exit.then (c4.wp P Q5) Q5) l3)):J n X N w0 L D tt CC (wpList P o1 (Exit.then ((Code.seq (Code.region i2 l3.toArray false) c4).wp P Q5) Q6) []):=⟨λa w F H x p q=>(dU (aQ (kR (bX (h.h a w F H x p q)))))⟩
theorem oEf {o1:Array Oper} {Q7:Exit->Act->Wd->Prop} {c5:Code} {Q6:Exit->Act->Wd->Prop} {i2:Nat} {c3:Code} {c4:Code} (h:J n X N w0 L D tt CC (c3.wp P (Exit.then (c4.wp P (Exit.inBlock i2 (Exit.then (c5.wp P Q6) Q6))) (Exit.inBlock i2 (Exit.then (c5.wp P Q6) Q6))))):J n X N w0 L D tt CC (wpList P o1 (Exit.then ((Code.seq (Code.block i2 (Code.seq c3 c4)) c5).wp P Q6) Q7) []):=⟨λa w F H x p q=>(dU (aQ (kR (rZ (kR (h.h a w F H x p q))))))⟩
theorem xRl {o1:Array Oper} {Q8:Exit->Act->Wd->Prop} {c6:Code} {Q7:Exit->Act->Wd->Prop} {i2:Nat} {c5:Code} {i3:Nat} {l4:List Oper} (h:J n X N w0 L D tt CC (wpList P l4.toArray (Exit.then (c5.wp P (Exit.inBlock i2 (Exit.then (c6.wp P Q7) Q7))) (Exit.inBlock i2 (Exit.then (c6.wp P Q7) Q7))) l4)):J n X N w0 L D tt CC (wpList P o1 (Exit.then ((Code.seq (Code.block i2 (Code.seq (Code.region i3 l4.toArray false) c5)) c6).wp P Q7) Q8) []):=⟨λa w F H x p q=>(dU (aQ (kR (rZ (kR (bX (h.h a w F H x p q)))))))⟩
theorem nE {o1:Array Oper} {Q6:Exit->Act->Wd->Prop} {c4:Code} {Q5:Exit->Act->Wd->Prop} {c2:Code} {c3:Code} (h:J n X N w0 L D tt CC (c2.wp P (Exit.then (c3.wp P (Exit.then (c4.wp P Q5) Q5)) (Exit.then (c4.wp P Q5) Q5)))):J n X N w0 L D tt CC (wpList P o1 (Exit.then ((Code.seq (Code.seq c2 c3) c4).wp P Q5) Q6) []):=⟨λa w F H x p q=>(dU (aQ (kR (kR (h.h a w F H x p q)))))⟩
theorem dZ {o1:Array Oper} {Q7:Exit->Act->Wd->Prop} {c5:Code} {Q6:Exit->Act->Wd->Prop} {c4:Code} {i2:Nat} {l3:List Oper} (h:J n X N w0 L D tt CC (wpList P l3.toArray (Exit.then (c4.wp P (Exit.then (c5.wp P Q6) Q6)) (Exit.then (c5.wp P Q6) Q6)) l3)):J n X N w0 L D tt CC (wpList P o1 (Exit.then ((Code.seq (Code.seq (Code.region i2 l3.toArray false) c4) c5).wp P Q6) Q7) []):=⟨λa w F H x p q=>(dU (aQ (kR (kR (bX (h.h a w F H x p q))))))⟩
theorem pM {o1:Array Oper} {Q3:Exit->Act->Wd->Prop} {Q2:Exit->Act->Wd->Prop} (h:J n X N w0 L D tt CC (Q2 .ret)):J n X N w0 L D tt CC (wpList P o1 (Exit.then (Code.ret.wp P Q2) Q3) []):=⟨λa w F H x p q=>(dU (aQ (wA (h.h a w F H x p q))))⟩
theorem xTs {o1:Array Oper} {Q4:Exit->Act->Wd->Prop} {K2:Act->Wd->Prop} {Q3:Exit->Act->Wd->Prop} (h:J n X N w0 L D tt CC (Q3 .ret)):J n X N w0 L D tt CC (wpList P o1 (Exit.then (Code.ret.wp P (Exit.then K2 Q3)) Q4) []):=⟨λa w F H x p q=>(dU (aQ (wA (uT (h.h a w F H x p q)))))⟩
theorem xIx {o1:Array Oper} {Q5:Exit->Act->Wd->Prop} {K2:Act->Wd->Prop} {K3:Act->Wd->Prop} {Q4:Exit->Act->Wd->Prop} (h:J n X N w0 L D tt CC (Q4 .ret)):J n X N w0 L D tt CC (wpList P o1 (Exit.then (Code.ret.wp P (Exit.then K2 (Exit.then K3 Q4))) Q5) []):=⟨λa w F H x p q=>(dU (aQ (wA (uT (uT (h.h a w F H x p q))))))⟩
theorem xLt {o1:Array Oper} {Q6:Exit->Act->Wd->Prop} {K2:Act->Wd->Prop} {i3:Nat} {K4:Act->Wd->Prop} {Q5:Exit->Act->Wd->Prop} (h:J n X N w0 L D tt CC (Q5 .ret)):J n X N w0 L D tt CC (wpList P o1 (Exit.then (Code.ret.wp P (Exit.then K2 (Exit.inBlock i3 (Exit.then K4 Q5)))) Q6) []):=⟨λa w F H x p q=>(dU (aQ (wA (uT (xQh (uT (h.h a w F H x p q)))))))⟩
theorem rO {o1:Array Oper} {Q7:Exit->Act->Wd->Prop} {K2:Act->Wd->Prop} {i3:Nat} {K4:Act->Wd->Prop} {K5:Act->Wd->Prop} {Q6:Exit->Act->Wd->Prop} (h:J n X N w0 L D tt CC (Q6 .ret)):J n X N w0 L D tt CC (wpList P o1 (Exit.then (Code.ret.wp P (Exit.then K2 (Exit.inBlock i3 (Exit.then K4 (Exit.then K5 Q6))))) Q7) []):=⟨λa w F H x p q=>(dU (aQ (wA (uT (xQh (uT (uT (h.h a w F H x p q))))))))⟩
theorem oFa {o1:Array Oper} {Q5:Exit->Act->Wd->Prop} {i2:Nat} {K3:Act->Wd->Prop} {Q4:Exit->Act->Wd->Prop} (h:J n X N w0 L D tt CC (Q4 .ret)):J n X N w0 L D tt CC (wpList P o1 (Exit.then (Code.ret.wp P (Exit.inBlock i2 (Exit.then K3 Q4))) Q5) []):=⟨λa w F H x p q=>(dU (aQ (wA (xQh (uT (h.h a w F H x p q))))))⟩
theorem xXh {o1:Array Oper} {Q6:Exit->Act->Wd->Prop} {i2:Nat} {K3:Act->Wd->Prop} {K4:Act->Wd->Prop} {Q5:Exit->Act->Wd->Prop} (h:J n X N w0 L D tt CC (Q5 .ret)):J n X N w0 L D tt CC (wpList P o1 (Exit.then (Code.ret.wp P (Exit.inBlock i2 (Exit.then K3 (Exit.then K4 Q5)))) Q6) []):=⟨λa w F H x p q=>(dU (aQ (wA (xQh (uT (uT (h.h a w F H x p q)))))))⟩
theorem kZ {o1:Array Oper} {i2:Nat} {Q6:Exit->Act->Wd->Prop} {i3:Nat} {l4:List Oper} {Q5:Exit->Act->Wd->Prop} {L':List (Nat×Vl)} {l:List Oper} (k:Nat) (e:sJ o1 n k L l=some (L',[])) (h:J n X N w0 L' D tt CC (wpList P l4.toArray Q5 l4)):J n X N w0 L D tt CC (wpList P o1 (Exit.inBlock i2 (Exit.then ((Code.region i3 l4.toArray false).wp P Q5) Q6)) l):=jA k e (dQ h)
theorem xC {o1:Array Oper} {K2:Act->Wd->Prop} {Q3:Exit->Act->Wd->Prop} {L':List (Nat×Vl)} {l:List Oper} (k:Nat) (e:sJ o1 n k L l=some (L',[])) (h:J n X N w0 L' D tt CC (K2)):J n X N w0 L D tt CC (wpList P o1 (Exit.then K2 Q3) l):=jA k e (kD h)
theorem xW {o1:Array Oper} {Q5:Exit->Act->Wd->Prop} {c2:Code} {c3:Code} {Q4:Exit->Act->Wd->Prop} {L':List (Nat×Vl)} {l:List Oper} (k:Nat) (e:sJ o1 n k L l=some (L',[])) (h:J n X N w0 L' D tt CC (c2.wp P (Exit.then (c3.wp P Q4) Q4))):J n X N w0 L D tt CC (wpList P o1 (Exit.then ((Code.seq c2 c3).wp P Q4) Q5) l):=jA k e (yD h)
theorem xM {o1:Array Oper} {Q6:Exit->Act->Wd->Prop} {c4:Code} {Q5:Exit->Act->Wd->Prop} {i2:Nat} {l3:List Oper} {L':List (Nat×Vl)} {l:List Oper} (k:Nat) (e:sJ o1 n k L l=some (L',[])) (h:J n X N w0 L' D tt CC (wpList P l3.toArray (Exit.then (c4.wp P Q5) Q5) l3)):J n X N w0 L D tt CC (wpList P o1 (Exit.then ((Code.seq (Code.region i2 l3.toArray false) c4).wp P Q5) Q6) l):=jA k e (qW h)
theorem xK {o1:Array Oper} {Q7:Exit->Act->Wd->Prop} {c5:Code} {Q6:Exit->Act->Wd->Prop} {c4:Code} {i2:Nat} {l3:List Oper} {L':List (Nat×Vl)} {l:List Oper} (k:Nat) (e:sJ o1 n k L l=some (L',[])) (h:J n X N w0 L' D tt CC (wpList P l3.toArray (Exit.then (c4.wp P (Exit.then (c5.wp P Q6) Q6)) (Exit.then (c5.wp P Q6) Q6)) l3)):J n X N w0 L D tt CC (wpList P o1 (Exit.then ((Code.seq (Code.seq (Code.region i2 l3.toArray false) c4) c5).wp P Q6) Q7) l):=jA k e (dZ h)
theorem xS {o1:Array Oper} {Q3:Exit->Act->Wd->Prop} {Q2:Exit->Act->Wd->Prop} {L':List (Nat×Vl)} {l:List Oper} (k:Nat) (e:sJ o1 n k L l=some (L',[])) (h:J n X N w0 L' D tt CC (Q2 .ret)):J n X N w0 L D tt CC (wpList P o1 (Exit.then (Code.ret.wp P Q2) Q3) l):=jA k e (pM h)
theorem oE {o1:Array Oper} {Q4:Exit->Act->Wd->Prop} {K2:Act->Wd->Prop} {Q3:Exit->Act->Wd->Prop} {L':List (Nat×Vl)} {l:List Oper} (k:Nat) (e:sJ o1 n k L l=some (L',[])) (h:J n X N w0 L' D tt CC (Q3 .ret)):J n X N w0 L D tt CC (wpList P o1 (Exit.then (Code.ret.wp P (Exit.then K2 Q3)) Q4) l):=jA k e (xTs h)
theorem bA {o1:Array Oper} {Q5:Exit->Act->Wd->Prop} {i2:Nat} {K3:Act->Wd->Prop} {Q4:Exit->Act->Wd->Prop} {L':List (Nat×Vl)} {l:List Oper} (k:Nat) (e:sJ o1 n k L l=some (L',[])) (h:J n X N w0 L' D tt CC (Q4 .ret)):J n X N w0 L D tt CC (wpList P o1 (Exit.then (Code.ret.wp P (Exit.inBlock i2 (Exit.then K3 Q4))) Q5) l):=jA k e (oFa h)
theorem oY {o1:Array Oper} {Q6:Exit->Act->Wd->Prop} {i2:Nat} {K3:Act->Wd->Prop} {K4:Act->Wd->Prop} {Q5:Exit->Act->Wd->Prop} {L':List (Nat×Vl)} {l:List Oper} (k:Nat) (e:sJ o1 n k L l=some (L',[])) (h:J n X N w0 L' D tt CC (Q5 .ret)):J n X N w0 L D tt CC (wpList P o1 (Exit.then (Code.ret.wp P (Exit.inBlock i2 (Exit.then K3 (Exit.then K4 Q5)))) Q6) l):=jA k e (xXh h)
theorem xXv {o1:Array Oper} {Q6:Exit->Act->Wd->Prop} {K3:Act->Wd->Prop} {i2:Nat} {K4:Act->Wd->Prop} {Q5:Exit->Act->Wd->Prop} (h:J n X N w0 L D tt CC (K4)):J n X N w0 L D tt CC (wpList P o1 (Exit.then ((Code.exit i2).wp P (Exit.then K3 (Exit.inBlock i2 (Exit.then K4 Q5)))) Q6) []):=⟨λa w F H x p q=>(dU (aQ (xDl (xMi (xTy (aQ (h.h a w F H x p q)))))))⟩
theorem lP {i1:Nat} {l2:List Oper} {Q3:Exit->Act->Wd->Prop} (h:J n X N w0 L D tt CC (wpList P l2.toArray Q3 l2)):J n X N w0 L D tt CC ((Code.region i1 l2.toArray false).wp P Q3):=⟨λa w F H x p q=>(bX (h.h a w F H x p q))⟩
theorem zK {i1:Nat} {c2:Code} {Q3:Exit->Act->Wd->Prop} (h:J n X N w0 L D tt CC (c2.wp P (Exit.inBlock i1 Q3))):J n X N w0 L D tt CC ((Code.block i1 c2).wp P Q3):=⟨λa w F H x p q=>(rZ (h.h a w F H x p q))⟩
theorem xAp {i1:Nat} {Q4:Exit->Act->Wd->Prop} {i2:Nat} {l3:List Oper} (h:J n X N w0 L D tt CC (wpList P l3.toArray (Exit.inBlock i1 Q4) l3)):J n X N w0 L D tt CC ((Code.block i1 (Code.region i2 l3.toArray false)).wp P Q4):=⟨λa w F H x p q=>(rZ (bX (h.h a w F H x p q)))⟩
theorem uV {i1:Nat} {Q4:Exit->Act->Wd->Prop} {c2:Code} {c3:Code} (h:J n X N w0 L D tt CC (c2.wp P (Exit.then (c3.wp P (Exit.inBlock i1 Q4)) (Exit.inBlock i1 Q4)))):J n X N w0 L D tt CC ((Code.block i1 (Code.seq c2 c3)).wp P Q4):=⟨λa w F H x p q=>(rZ (kR (h.h a w F H x p q)))⟩
theorem qE {i1:Nat} {Q5:Exit->Act->Wd->Prop} {c4:Code} {i2:Nat} {l3:List Oper} (h:J n X N w0 L D tt CC (wpList P l3.toArray (Exit.then (c4.wp P (Exit.inBlock i1 Q5)) (Exit.inBlock i1 Q5)) l3)):J n X N w0 L D tt CC ((Code.block i1 (Code.seq (Code.region i2 l3.toArray false) c4)).wp P Q5):=⟨λa w F H x p q=>(rZ (kR (bX (h.h a w F H x p q))))⟩
theorem eD {K1:Act->Wd->Prop} {Q2:Exit->Act->Wd->Prop} (h:J n X N w0 L D tt CC (K1)):J n X N w0 L D tt CC (Exit.then K1 Q2 .normal):=⟨λa w F H x p q=>(aQ (h.h a w F H x p q))⟩
theorem xMt {Q4:Exit->Act->Wd->Prop} {i1:Nat} {l2:List Oper} {Q3:Exit->Act->Wd->Prop} (h:J n X N w0 L D tt CC (wpList P l2.toArray Q3 l2)):J n X N w0 L D tt CC (Exit.then ((Code.region i1 l2.toArray false).wp P Q3) Q4 .normal):=⟨λa w F H x p q=>(aQ (bX (h.h a w F H x p q)))⟩
theorem xMp {Q4:Exit->Act->Wd->Prop} {c1:Code} {c2:Code} {Q3:Exit->Act->Wd->Prop} (h:J n X N w0 L D tt CC (c1.wp P (Exit.then (c2.wp P Q3) Q3))):J n X N w0 L D tt CC (Exit.then ((Code.seq c1 c2).wp P Q3) Q4 .normal):=⟨λa w F H x p q=>(aQ (kR (h.h a w F H x p q)))⟩
theorem oO {Q5:Exit->Act->Wd->Prop} {c3:Code} {Q4:Exit->Act->Wd->Prop} {i1:Nat} {l2:List Oper} (h:J n X N w0 L D tt CC (wpList P l2.toArray (Exit.then (c3.wp P Q4) Q4) l2)):J n X N w0 L D tt CC (Exit.then ((Code.seq (Code.region i1 l2.toArray false) c3).wp P Q4) Q5 .normal):=⟨λa w F H x p q=>(aQ (kR (bX (h.h a w F H x p q))))⟩
theorem cF {Q6:Exit->Act->Wd->Prop} {c4:Code} {Q5:Exit->Act->Wd->Prop} {c3:Code} {i1:Nat} {l2:List Oper} (h:J n X N w0 L D tt CC (wpList P l2.toArray (Exit.then (c3.wp P (Exit.then (c4.wp P Q5) Q5)) (Exit.then (c4.wp P Q5) Q5)) l2)):J n X N w0 L D tt CC (Exit.then ((Code.seq (Code.seq (Code.region i1 l2.toArray false) c3) c4).wp P Q5) Q6 .normal):=⟨λa w F H x p q=>(aQ (kR (kR (bX (h.h a w F H x p q)))))⟩
theorem nH {Q2:Exit->Act->Wd->Prop} {Q1:Exit->Act->Wd->Prop} (h:J n X N w0 L D tt CC (Q1 .ret)):J n X N w0 L D tt CC (Exit.then (Code.ret.wp P Q1) Q2 .normal):=⟨λa w F H x p q=>(aQ (wA (h.h a w F H x p q)))⟩
theorem xRf {Q3:Exit->Act->Wd->Prop} {K1:Act->Wd->Prop} {Q2:Exit->Act->Wd->Prop} (h:J n X N w0 L D tt CC (Q2 .ret)):J n X N w0 L D tt CC (Exit.then (Code.ret.wp P (Exit.then K1 Q2)) Q3 .normal):=⟨λa w F H x p q=>(aQ (wA (uT (h.h a w F H x p q))))⟩
theorem xLg {Q4:Exit->Act->Wd->Prop} {i1:Nat} {K2:Act->Wd->Prop} {Q3:Exit->Act->Wd->Prop} (h:J n X N w0 L D tt CC (Q3 .ret)):J n X N w0 L D tt CC (Exit.then (Code.ret.wp P (Exit.inBlock i1 (Exit.then K2 Q3))) Q4 .normal):=⟨λa w F H x p q=>(aQ (wA (xQh (uT (h.h a w F H x p q)))))⟩
theorem xPm {Q5:Exit->Act->Wd->Prop} {i1:Nat} {K2:Act->Wd->Prop} {K3:Act->Wd->Prop} {Q4:Exit->Act->Wd->Prop} (h:J n X N w0 L D tt CC (Q4 .ret)):J n X N w0 L D tt CC (Exit.then (Code.ret.wp P (Exit.inBlock i1 (Exit.then K2 (Exit.then K3 Q4)))) Q5 .normal):=⟨λa w F H x p q=>(aQ (wA (xQh (uT (uT (h.h a w F H x p q))))))⟩
theorem zR {i1:Nat} {K2:Act->Wd->Prop} {Q3:Exit->Act->Wd->Prop} (h:J n X N w0 L D tt CC (Q3 .ret)):J n X N w0 L D tt CC (Exit.inBlock i1 (Exit.then K2 Q3) .ret):=⟨λa w F H x p q=>(xQh (uT (h.h a w F H x p q)))⟩
theorem xFi {i1:Nat} {K2:Act->Wd->Prop} {K3:Act->Wd->Prop} {Q4:Exit->Act->Wd->Prop} (h:J n X N w0 L D tt CC (Q4 .ret)):J n X N w0 L D tt CC (Exit.inBlock i1 (Exit.then K2 (Exit.then K3 Q4)) .ret):=⟨λa w F H x p q=>(xQh (uT (uT (h.h a w F H x p q))))⟩
theorem a_s {c1:Code} {c2:Code} {Q3:Exit->Act->Wd->Prop} (h:J n X N w0 L D tt CC (c1.wp P (Exit.then (c2.wp P Q3) Q3))):J n X N w0 L D tt CC ((Code.seq c1 c2).wp P Q3):=⟨λa w F H x p q=>(kR (h.h a w F H x p q))⟩
theorem xI {c3:Code} {Q4:Exit->Act->Wd->Prop} {i1:Nat} {l2:List Oper} (h:J n X N w0 L D tt CC (wpList P l2.toArray (Exit.then (c3.wp P Q4) Q4) l2)):J n X N w0 L D tt CC ((Code.seq (Code.region i1 l2.toArray false) c3).wp P Q4):=⟨λa w F H x p q=>(kR (bX (h.h a w F H x p q)))⟩
theorem xRj {c3:Code} {Q4:Exit->Act->Wd->Prop} {c1:Code} {c2:Code} (h:J n X N w0 L D tt CC (c1.wp P (Exit.then (c2.wp P (Exit.then (c3.wp P Q4) Q4)) (Exit.then (c3.wp P Q4) Q4)))):J n X N w0 L D tt CC ((Code.seq (Code.seq c1 c2) c3).wp P Q4):=⟨λa w F H x p q=>(kR (kR (h.h a w F H x p q)))⟩
theorem xR {c4:Code} {Q5:Exit->Act->Wd->Prop} {c3:Code} {i1:Nat} {l2:List Oper} (h:J n X N w0 L D tt CC (wpList P l2.toArray (Exit.then (c3.wp P (Exit.then (c4.wp P Q5) Q5)) (Exit.then (c4.wp P Q5) Q5)) l2)):J n X N w0 L D tt CC ((Code.seq (Code.seq (Code.region i1 l2.toArray false) c3) c4).wp P Q5):=⟨λa w F H x p q=>(kR (kR (bX (h.h a w F H x p q))))⟩
theorem oIt {K2:Act->Wd->Prop} {i1:Nat} {K3:Act->Wd->Prop} {Q4:Exit->Act->Wd->Prop} (h:J n X N w0 L D tt CC (K3)):J n X N w0 L D tt CC ((Code.exit i1).wp P (Exit.then K2 (Exit.inBlock i1 (Exit.then K3 Q4)))):=⟨λa w F H x p q=>(xDl (xMi (xTy (aQ (h.h a w F H x p q)))))⟩
theorem xPr {K2:Act->Wd->Prop} {i1:Nat} {Q6:Exit->Act->Wd->Prop} {i3:Nat} {l4:List Oper} {Q5:Exit->Act->Wd->Prop} (h:J n X N w0 L D tt CC (wpList P l4.toArray Q5 l4)):J n X N w0 L D tt CC ((Code.exit i1).wp P (Exit.then K2 (Exit.inBlock i1 (Exit.then ((Code.region i3 l4.toArray false).wp P Q5) Q6)))):=⟨λa w F H x p q=>(xDl (xMi (xTy (aQ (bX (h.h a w F H x p q))))))⟩
theorem nS {K2:Act->Wd->Prop} {K3:Act->Wd->Prop} {Q4:Exit->Act->Wd->Prop} {i1:Nat} (h:J n X N w0 L D tt CC (Q4 (.exit i1))):J n X N w0 L D tt CC ((Code.exit i1).wp P (Exit.then K2 (Exit.then K3 Q4))):=⟨λa w F H x p q=>(xDl (xMi (xMi (h.h a w F H x p q))))⟩
theorem xN {K2:Act->Wd->Prop} {K3:Act->Wd->Prop} {i1:Nat} {K4:Act->Wd->Prop} {Q5:Exit->Act->Wd->Prop} (h:J n X N w0 L D tt CC (K4)):J n X N w0 L D tt CC ((Code.exit i1).wp P (Exit.then K2 (Exit.then K3 (Exit.inBlock i1 (Exit.then K4 Q5))))):=⟨λa w F H x p q=>(xDl (xMi (xMi (xTy (aQ (h.h a w F H x p q))))))⟩
theorem a_z {fn1:Func} {R2:Ending->Wd->Prop} (h:J n X N w0 L D tt CC (bodyPost P fn1 R2 .ret)):J n X N w0 L D tt CC (bodyPost P fn1 R2 .normal):=⟨λa w F H x p q=>(oGz (h.h a w F H x p q))⟩
end
end
section
open Go.RowKit
theorem oHz (a:Addr) (w:Wd):(Instr.fieldAt 24 (.pointer (some a)) 0).run Tryz.prog w= .ok (.pointer (some (a.add 0))) w:=xV (k:=0) (off:=0) Tryz.underlying24 rfl Tryz.sizeOf2 (by decide) rfl a w
theorem oGe (a:Addr) (w:Wd):(Instr.fieldAt 24 (.pointer (some a)) 1).run Tryz.prog w= .ok (.pointer (some (a.add 1))) w:=xV (k:=1) (off:=1) Tryz.underlying24 rfl Tryz.sizeOf22 (by decide) rfl a w
theorem oHo (a:Addr) (w:Wd):(Instr.fieldAt 27 (.pointer (some a)) 0).run Tryz.prog w= .ok (.pointer (some (a.add 0))) w:=xV (k:=0) (off:=0) Tryz.underlying27 rfl Tryz.sizeOf24 (by decide) rfl a w
theorem oGd (a:Addr) (w:Wd):(Instr.fieldAt 27 (.pointer (some a)) 1).run Tryz.prog w= .ok (.pointer (some (a.add 2))) w:=xV (k:=1) (off:=2) Tryz.underlying27 rfl Tryz.sizeOf25 (by decide) rfl a w
theorem oGj (a:Addr) (w:Wd):(Instr.fieldAt 27 (.pointer (some a)) 2).run Tryz.prog w= .ok (.pointer (some (a.add 3))) w:=xV (k:=2) (off:=3) Tryz.underlying27 rfl Tryz.sizeOf2 (by decide) rfl a w
theorem oHv (a:Addr) (w:Wd):(Instr.fieldAt 32 (.pointer (some a)) 0).run Tryz.prog w= .ok (.pointer (some (a.add 0))) w:=xV (k:=0) (off:=0) Tryz.underlying32 rfl Tryz.sizeOf2 (by decide) rfl a w
theorem oHg (a:Addr) (w:Wd):(Instr.fieldAt 32 (.pointer (some a)) 1).run Tryz.prog w= .ok (.pointer (some (a.add 1))) w:=xV (k:=1) (off:=1) Tryz.underlying32 rfl Tryz.sizeOf30 (by decide) rfl a w
theorem oHj (a:Addr) (w:Wd):(Instr.fieldAt 35 (.pointer (some a)) 0).run Tryz.prog w= .ok (.pointer (some (a.add 0))) w:=xV (k:=0) (off:=0) Tryz.underlying35 rfl Tryz.sizeOf32 (by decide) rfl a w
theorem oHi (a:Addr) (w:Wd):(Instr.fieldAt 35 (.pointer (some a)) 1).run Tryz.prog w= .ok (.pointer (some (a.add 2))) w:=xV (k:=1) (off:=2) Tryz.underlying35 rfl Tryz.sizeOf33 (by decide) rfl a w
theorem oGk (a:Addr) (w:Wd):(Instr.fieldAt 35 (.pointer (some a)) 2).run Tryz.prog w= .ok (.pointer (some (a.add 3))) w:=xV (k:=2) (off:=3) Tryz.underlying35 rfl Tryz.sizeOf2 (by decide) rfl a w
theorem oHc (a:Addr) (w:Wd):(Instr.fieldAt 54 (.pointer (some a)) 0).run Tryz.prog w= .ok (.pointer (some (a.add 0))) w:=xV (k:=0) (off:=0) Tryz.underlying54 rfl Tryz.sizeOf2 (by decide) rfl a w
theorem oGm (a:Addr) (w:Wd):(Instr.fieldAt 54 (.pointer (some a)) 1).run Tryz.prog w= .ok (.pointer (some (a.add 1))) w:=xV (k:=1) (off:=1) Tryz.underlying54 rfl Tryz.sizeOf52 (by decide) rfl a w
theorem oIv (a:Addr) (w:Wd):(Instr.fieldAt 62 (.pointer (some a)) 1).run Tryz.prog w= .ok (.pointer (some (a.add 1))) w:=xV (k:=1) (off:=1) Tryz.underlying62 rfl Tryz.sizeOf58 (by decide) rfl a w
theorem oGa (a:Addr) (w:Wd):(Instr.fieldAt 67 (.pointer (some a)) 0).run Tryz.prog w= .ok (.pointer (some (a.add 0))) w:=xV (k:=0) (off:=0) Tryz.underlying67 rfl Tryz.sizeOf2 (by decide) rfl a w
theorem oGu (a:Addr) (w:Wd):(Instr.fieldAt 67 (.pointer (some a)) 1).run Tryz.prog w= .ok (.pointer (some (a.add 1))) w:=xV (k:=1) (off:=1) Tryz.underlying67 rfl Tryz.sizeOf65 (by decide) rfl a w
theorem oGx (a:Addr) (w:Wd):(Instr.fieldAt 76 (.pointer (some a)) 0).run Tryz.prog w= .ok (.pointer (some (a.add 0))) w:=xV (k:=0) (off:=0) Tryz.underlying76 rfl Tryz.sizeOf2 (by decide) rfl a w
theorem oGi (a:Addr) (w:Wd):(Instr.fieldAt 76 (.pointer (some a)) 1).run Tryz.prog w= .ok (.pointer (some (a.add 1))) w:=xV (k:=1) (off:=1) Tryz.underlying76 rfl Tryz.sizeOf74 (by decide) rfl a w
theorem oHa (a:Addr) (w:Wd):(Instr.fieldAt 80 (.pointer (some a)) 0).run Tryz.prog w= .ok (.pointer (some (a.add 0))) w:=xV (k:=0) (off:=0) Tryz.underlying80 rfl Tryz.sizeOf2 (by decide) rfl a w
theorem oGo (a:Addr) (w:Wd):(Instr.fieldAt 80 (.pointer (some a)) 1).run Tryz.prog w= .ok (.pointer (some (a.add 1))) w:=xV (k:=1) (off:=1) Tryz.underlying80 rfl Tryz.sizeOf74 (by decide) rfl a w
theorem oId (a:Addr) (w:Wd):(Instr.fieldAt 85 (.pointer (some a)) 0).run Tryz.prog w= .ok (.pointer (some (a.add 0))) w:=xV (k:=0) (off:=0) Tryz.underlying85 rfl Tryz.sizeOf2 (by decide) rfl a w
theorem oHr (a:Addr) (w:Wd):(Instr.fieldAt 85 (.pointer (some a)) 1).run Tryz.prog w= .ok (.pointer (some (a.add 1))) w:=xV (k:=1) (off:=1) Tryz.underlying85 rfl Tryz.sizeOf58 (by decide) rfl a w
theorem oCa (a:Addr) (w:Wd):(Instr.fieldAt 105 (.pointer (some a)) 0).run Tryz.prog w= .ok (.pointer (some (a.add 0))) w:=xV (k:=0) (off:=0) Tryz.underlying105 rfl Tryz.sizeOf2 (by decide) rfl a w
theorem oDb (a:Addr) (w:Wd):(Instr.fieldAt 105 (.pointer (some a)) 1).run Tryz.prog w= .ok (.pointer (some (a.add 1))) w:=xV (k:=1) (off:=1) Tryz.underlying105 rfl Tryz.sizeOf58 (by decide) rfl a w
theorem oCc (a:Addr) (w:Wd):(Instr.fieldAt 109 (.pointer (some a)) 0).run Tryz.prog w= .ok (.pointer (some (a.add 0))) w:=xV (k:=0) (off:=0) Tryz.underlying109 rfl Tryz.sizeOf2 (by decide) rfl a w
theorem oFd (a:Addr) (w:Wd):(Instr.fieldAt 109 (.pointer (some a)) 1).run Tryz.prog w= .ok (.pointer (some (a.add 1))) w:=xV (k:=1) (off:=1) Tryz.underlying109 rfl Tryz.sizeOf58 (by decide) rfl a w
theorem oBv (a:Addr) (w:Wd):(Instr.fieldAt 130 (.pointer (some a)) 0).run Tryz.prog w= .ok (.pointer (some (a.add 0))) w:=xV (k:=0) (off:=0) Tryz.underlying130 rfl Tryz.sizeOf2 (by decide) rfl a w
theorem oEb (a:Addr) (w:Wd):(Instr.fieldAt 130 (.pointer (some a)) 1).run Tryz.prog w= .ok (.pointer (some (a.add 1))) w:=xV (k:=1) (off:=1) Tryz.underlying130 rfl Tryz.sizeOf2 (by decide) rfl a w
theorem oBx (a:Addr) (w:Wd):(Instr.fieldAt 130 (.pointer (some a)) 2).run Tryz.prog w= .ok (.pointer (some (a.add 2))) w:=xV (k:=2) (off:=2) Tryz.underlying130 rfl Tryz.sizeOf128 (by decide) rfl a w
theorem oDw (a:Addr) (w:Wd):(Instr.fieldAt 165 (.pointer (some a)) 0).run Tryz.prog w= .ok (.pointer (some (a.add 0))) w:=xV (k:=0) (off:=0) Tryz.underlying165 rfl Tryz.sizeOf2 (by decide) rfl a w
theorem oEp (a:Addr) (w:Wd):(Instr.fieldAt 165 (.pointer (some a)) 1).run Tryz.prog w= .ok (.pointer (some (a.add 1))) w:=xV (k:=1) (off:=1) Tryz.underlying165 rfl Tryz.sizeOf2 (by decide) rfl a w
theorem oCj (a:Addr) (w:Wd):(Instr.fieldAt 165 (.pointer (some a)) 2).run Tryz.prog w= .ok (.pointer (some (a.add 2))) w:=xV (k:=2) (off:=2) Tryz.underlying165 rfl Tryz.sizeOf2 (by decide) rfl a w
theorem oDf (a:Addr) (w:Wd):(Instr.fieldAt 169 (.pointer (some a)) 0).run Tryz.prog w= .ok (.pointer (some (a.add 0))) w:=xV (k:=0) (off:=0) Tryz.underlying169 rfl Tryz.sizeOf58 (by decide) rfl a w
theorem oCu (a:Addr) (w:Wd):(Instr.fieldAt 169 (.pointer (some a)) 1).run Tryz.prog w= .ok (.pointer (some (a.add 1))) w:=xV (k:=1) (off:=1) Tryz.underlying169 rfl Tryz.sizeOf2 (by decide) rfl a w
theorem oCr (a:Addr) (w:Wd):(Instr.fieldAt 177 (.pointer (some a)) 0).run Tryz.prog w= .ok (.pointer (some (a.add 0))) w:=xV (k:=0) (off:=0) Tryz.underlying177 rfl Tryz.sizeOf58 (by decide) rfl a w
theorem oDu (a:Addr) (w:Wd):(Instr.fieldAt 177 (.pointer (some a)) 1).run Tryz.prog w= .ok (.pointer (some (a.add 1))) w:=xV (k:=1) (off:=1) Tryz.underlying177 rfl Tryz.sizeOf2 (by decide) rfl a w
theorem oEv (a:Addr) (w:Wd):(Instr.fieldAt 177 (.pointer (some a)) 2).run Tryz.prog w= .ok (.pointer (some (a.add 2))) w:=xV (k:=2) (off:=2) Tryz.underlying177 rfl Tryz.sizeOf58 (by decide) rfl a w
theorem oBs (a:Addr) (w:Wd):(Instr.fieldAt 213 (.pointer (some a)) 0).run Tryz.prog w= .ok (.pointer (some (a.add 0))) w:=xV (k:=0) (off:=0) Tryz.underlying213 rfl Tryz.sizeOf56 (by decide) rfl a w
theorem oDq (a:Addr) (w:Wd):(Instr.fieldAt 213 (.pointer (some a)) 1).run Tryz.prog w= .ok (.pointer (some (a.add 1))) w:=xV (k:=1) (off:=1) Tryz.underlying213 rfl Tryz.sizeOf2 (by decide) rfl a w
theorem oEu (a:Addr) (w:Wd):(Instr.fieldAt 213 (.pointer (some a)) 2).run Tryz.prog w= .ok (.pointer (some (a.add 2))) w:=xV (k:=2) (off:=2) Tryz.underlying213 rfl Tryz.sizeOf211 (by decide) rfl a w
theorem oDr (a:Addr) (w:Wd):(Instr.fieldAt 213 (.pointer (some a)) 3).run Tryz.prog w= .ok (.pointer (some (a.add 3))) w:=xV (k:=3) (off:=3) Tryz.underlying213 rfl Tryz.sizeOf210 (by decide) rfl a w
theorem oDn (a:Addr) (w:Wd):(Instr.fieldAt 213 (.pointer (some a)) 4).run Tryz.prog w= .ok (.pointer (some (a.add 4))) w:=xV (k:=4) (off:=4) Tryz.underlying213 rfl Tryz.sizeOf58 (by decide) rfl a w
theorem oDp (a:Addr) (w:Wd):(Instr.fieldAt 213 (.pointer (some a)) 5).run Tryz.prog w= .ok (.pointer (some (a.add 5))) w:=xV (k:=5) (off:=5) Tryz.underlying213 rfl Tryz.sizeOf58 (by decide) rfl a w
theorem oCo (a:Addr) (w:Wd):(Instr.fieldAt 213 (.pointer (some a)) 6).run Tryz.prog w= .ok (.pointer (some (a.add 6))) w:=xV (k:=6) (off:=6) Tryz.underlying213 rfl Tryz.sizeOf2 (by decide) rfl a w
theorem oDk (a:Addr) (w:Wd):(Instr.fieldAt 213 (.pointer (some a)) 7).run Tryz.prog w= .ok (.pointer (some (a.add 7))) w:=xV (k:=7) (off:=7) Tryz.underlying213 rfl Tryz.sizeOf4 (by decide) rfl a w
theorem oDm (a:Addr) (w:Wd):(Instr.fieldAt 240 (.pointer (some a)) 0).run Tryz.prog w= .ok (.pointer (some (a.add 0))) w:=xV (k:=0) (off:=0) Tryz.underlying240 rfl Tryz.sizeOf32 (by decide) rfl a w
theorem oEo (a:Addr) (w:Wd):(Instr.fieldAt 240 (.pointer (some a)) 1).run Tryz.prog w= .ok (.pointer (some (a.add 2))) w:=xV (k:=1) (off:=2) Tryz.underlying240 rfl Tryz.sizeOf2 (by decide) rfl a w
theorem oEs (a:Addr) (w:Wd):(Instr.fieldAt 240 (.pointer (some a)) 2).run Tryz.prog w= .ok (.pointer (some (a.add 3))) w:=xV (k:=2) (off:=3) Tryz.underlying240 rfl Tryz.sizeOf237 (by decide) rfl a w
theorem oEh (a:Addr) (w:Wd):(Instr.fieldAt 240 (.pointer (some a)) 3).run Tryz.prog w= .ok (.pointer (some (a.add 4))) w:=xV (k:=3) (off:=4) Tryz.underlying240 rfl Tryz.sizeOf238 (by decide) rfl a w
theorem oEj (a:Addr) (w:Wd):(Instr.fieldAt 240 (.pointer (some a)) 4).run Tryz.prog w= .ok (.pointer (some (a.add 5))) w:=xV (k:=4) (off:=5) Tryz.underlying240 rfl Tryz.sizeOf58 (by decide) rfl a w
theorem oCz (a:Addr) (w:Wd):(Instr.fieldAt 240 (.pointer (some a)) 5).run Tryz.prog w= .ok (.pointer (some (a.add 6))) w:=xV (k:=5) (off:=6) Tryz.underlying240 rfl Tryz.sizeOf3 (by decide) rfl a w
theorem oBm (a:Addr) (w:Wd):(Instr.fieldAt 240 (.pointer (some a)) 6).run Tryz.prog w= .ok (.pointer (some (a.add 7))) w:=xV (k:=6) (off:=7) Tryz.underlying240 rfl Tryz.sizeOf58 (by decide) rfl a w
theorem oDj (a:Addr) (w:Wd):(Instr.fieldAt 243 (.pointer (some a)) 0).run Tryz.prog w= .ok (.pointer (some (a.add 0))) w:=xV (k:=0) (off:=0) Tryz.underlying243 rfl Tryz.sizeOf3 (by decide) rfl a w
theorem oEa (a:Addr) (w:Wd):(Instr.fieldAt 243 (.pointer (some a)) 1).run Tryz.prog w= .ok (.pointer (some (a.add 1))) w:=xV (k:=1) (off:=1) Tryz.underlying243 rfl Tryz.sizeOf58 (by decide) rfl a w
theorem oCe (a:Addr) (w:Wd):(Instr.fieldAt 270 (.pointer (some a)) 0).run Tryz.prog w= .ok (.pointer (some (a.add 0))) w:=xV (k:=0) (off:=0) Tryz.underlying270 rfl Tryz.sizeOf58 (by decide) rfl a w
theorem oDa (a:Addr) (w:Wd):(Instr.fieldAt 270 (.pointer (some a)) 1).run Tryz.prog w= .ok (.pointer (some (a.add 1))) w:=xV (k:=1) (off:=1) Tryz.underlying270 rfl Tryz.sizeOf58 (by decide) rfl a w
theorem oDe (a:Addr) (w:Wd):(Instr.fieldAt 277 (.pointer (some a)) 2).run Tryz.prog w= .ok (.pointer (some (a.add 2))) w:=xV (k:=2) (off:=2) Tryz.underlying277 rfl Tryz.sizeOf241 (by decide) rfl a w
theorem oBp (a:Addr) (w:Wd):(Instr.fieldAt 280 (.pointer (some a)) 0).run Tryz.prog w= .ok (.pointer (some (a.add 0))) w:=xV (k:=0) (off:=0) Tryz.underlying280 rfl Tryz.sizeOf3 (by decide) rfl a w
theorem oCi (a:Addr) (w:Wd):(Instr.fieldAt 280 (.pointer (some a)) 1).run Tryz.prog w= .ok (.pointer (some (a.add 1))) w:=xV (k:=1) (off:=1) Tryz.underlying280 rfl Tryz.sizeOf58 (by decide) rfl a w
end
section
open Go.Proofs.Tryz
set_option maxRecDepth 100000
abbrev CG (B:Nat->Prop) (w:Wd) (f:FuncId) (vs:Array Vl) (I:Tl Vl (List As->List As)):Prop:=Calls prog f vs w (Gt B w [] I)
instance:Mo prog:=⟨by kernel_rfl⟩
instance:type_of% (Ug.mk underlying3):=⟨underlying3⟩
instance:type_of% (Ug.mk underlying4):=⟨underlying4⟩
instance:Ug prog 22 (.slice 76):=⟨underlying22⟩
instance:Ug prog 25 (.slice 54):=⟨underlying25⟩
instance:Ug prog 30 (.slice 80):=⟨underlying30⟩
instance:Ug prog 33 (.slice 67):=⟨underlying33⟩
instance:Ug prog 41 (.slice 62):=⟨underlying41⟩
instance:Ug prog 52 (.slice 105):=⟨underlying52⟩
instance:Ug prog 58 (.slice 2):=⟨underlying58⟩
instance:Ug prog 59 (.slice 225):=⟨underlying59⟩
instance:Ug prog 60 (.slice 165):=⟨underlying60⟩
instance:Ug prog 65 (.slice 109):=⟨underlying65⟩
instance:Ug prog 74 (.slice 58):=⟨underlying74⟩
instance:Ug prog 128 (.slice 169):=⟨underlying128⟩
instance:Ug prog 172 (.slice 177):=⟨underlying172⟩
instance:Ug prog 210 (.slice 281):=⟨underlying210⟩
instance:Ug prog 211 (.slice 214):=⟨underlying211⟩
instance:Ug prog 237 (.slice 244):=⟨underlying237⟩
instance:Ug prog 238 (.slice 241):=⟨underlying238⟩
instance:Ug prog 241 (.slice 4):=⟨underlying241⟩
instance:Ug prog 244 (.slice 243):=⟨underlying244⟩
instance:type_of% (Ug.mk underlying252):=⟨underlying252⟩
instance:type_of% (Ug.mk underlying256):=⟨underlying256⟩
instance:Ug prog 266 (.slice 270):=⟨underlying266⟩
instance:Ug prog 281 (.slice 280):=⟨underlying281⟩
instance:Sz prog 2 1:=⟨sizeOf2⟩
instance:Sz prog 3 1:=⟨sizeOf3⟩
instance:Sz prog 4 1:=⟨sizeOf4⟩
instance:Sz prog 24 2:=⟨sizeOf24⟩
instance:Sz prog 27 4:=⟨sizeOf27⟩
instance:Sz prog 30 1:=⟨sizeOf30⟩
instance:Sz prog 32 2:=⟨sizeOf32⟩
instance:Sz prog 33 1:=⟨sizeOf33⟩
instance:Sz prog 35 4:=⟨sizeOf35⟩
instance:Sz prog 54 2:=⟨sizeOf54⟩
instance:Sz prog 58 1:=⟨sizeOf58⟩
instance:Sz prog 62 5:=⟨sizeOf62⟩
instance:Sz prog 65 1:=⟨sizeOf65⟩
instance:Sz prog 67 2:=⟨sizeOf67⟩
instance:Sz prog 74 1:=⟨sizeOf74⟩
instance:Sz prog 76 2:=⟨sizeOf76⟩
instance:Sz prog 80 2:=⟨sizeOf80⟩
instance:Sz prog 85 2:=⟨sizeOf85⟩
instance:Sz prog 105 2:=⟨sizeOf105⟩
instance:Sz prog 109 2:=⟨sizeOf109⟩
instance:Sz prog 165 3:=⟨sizeOf165⟩
instance:Sz prog 169 2:=⟨sizeOf169⟩
instance:Sz prog 177 3:=⟨sizeOf177⟩
instance:Sz prog 211 1:=⟨sizeOf211⟩
instance:Sz prog 214 1:=⟨sizeOf214⟩
instance:Sz prog 225 3:=⟨sizeOf225⟩
instance:Sz prog 238 1:=⟨sizeOf238⟩
instance:Sz prog 241 1:=⟨sizeOf241⟩
instance:Sz prog 243 2:=⟨sizeOf243⟩
instance:Sz prog 244 1:=⟨sizeOf244⟩
instance:Sz prog 252 3:=⟨sizeOf252⟩
instance:Sz prog 270 2:=⟨sizeOf270⟩
instance:Sz prog 280 2:=⟨sizeOf280⟩
instance:Sz prog 281 1:=⟨sizeOf281⟩
instance:Ag prog 2 false:=⟨isAgg2⟩
instance:Ag prog 3 false:=⟨isAgg3⟩
instance:Ag prog 4 false:=⟨isAgg4⟩
instance:Ag prog 22 false:=⟨isAgg22⟩
instance:Ag prog 24 true:=⟨isAgg24⟩
instance:Ag prog 25 false:=⟨isAgg25⟩
instance:Ag prog 27 true:=⟨isAgg27⟩
instance:Ag prog 30 false:=⟨isAgg30⟩
instance:Ag prog 32 true:=⟨isAgg32⟩
instance:Ag prog 33 false:=⟨isAgg33⟩
instance:Ag prog 35 true:=⟨isAgg35⟩
instance:Ag prog 52 false:=⟨isAgg52⟩
instance:Ag prog 54 true:=⟨isAgg54⟩
instance:Ag prog 56 false:=⟨isAgg56⟩
instance:Ag prog 58 false:=⟨isAgg58⟩
instance:Ag prog 62 true:=⟨isAgg62⟩
instance:Ag prog 65 false:=⟨isAgg65⟩
instance:Ag prog 67 true:=⟨isAgg67⟩
instance:Ag prog 74 false:=⟨isAgg74⟩
instance:Ag prog 76 true:=⟨isAgg76⟩
instance:Ag prog 80 true:=⟨isAgg80⟩
instance:Ag prog 85 true:=⟨isAgg85⟩
instance:Ag prog 105 true:=⟨isAgg105⟩
instance:Ag prog 109 true:=⟨isAgg109⟩
instance:Ag prog 128 false:=⟨isAgg128⟩
instance:Ag prog 165 true:=⟨isAgg165⟩
instance:Ag prog 169 true:=⟨isAgg169⟩
instance:Ag prog 177 true:=⟨isAgg177⟩
instance:Ag prog 193 false:=⟨isAgg193⟩
instance:Ag prog 210 false:=⟨isAgg210⟩
instance:Ag prog 211 false:=⟨isAgg211⟩
instance:Ag prog 214 false:=⟨isAgg214⟩
instance:Ag prog 237 false:=⟨isAgg237⟩
instance:Ag prog 238 false:=⟨isAgg238⟩
instance:Ag prog 241 false:=⟨isAgg241⟩
instance:Ag prog 243 true:=⟨isAgg243⟩
instance:Ag prog 244 false:=⟨isAgg244⟩
instance:Ag prog 252 true:=⟨isAgg252⟩
instance:Ag prog 253 false:=⟨isAgg253⟩
instance:Ag prog 270 true:=⟨isAgg270⟩
instance:Ag prog 280 true:=⟨isAgg280⟩
instance:Ag prog 281 false:=⟨isAgg281⟩
instance:type_of% (Zv.mk zeroValue2):=⟨zeroValue2⟩
instance:type_of% (Zv.mk zeroValue32):=⟨zeroValue32⟩
instance:type_of% (Zv.mk zeroValue35):=⟨zeroValue35⟩
instance:type_of% (Zv.mk zeroValue58):=⟨zeroValue58⟩
instance:type_of% (Zv.mk zeroValue62):=⟨zeroValue62⟩
instance:type_of% (Zv.mk zeroValue67):=⟨zeroValue67⟩
instance:type_of% (Zv.mk zeroValue80):=⟨zeroValue80⟩
instance:type_of% (Zv.mk zeroValue85):=⟨zeroValue85⟩
instance:type_of% (Zv.mk zeroValue109):=⟨zeroValue109⟩
instance:type_of% (Zv.mk zeroValue165):=⟨zeroValue165⟩
instance:type_of% (Zv.mk zeroValue177):=⟨zeroValue177⟩
instance:type_of% (Zv.mk zeroValue214):=⟨zeroValue214⟩
instance:type_of% (Zv.mk zeroValue225):=⟨zeroValue225⟩
instance:type_of% (Zv.mk zeroValue241):=⟨zeroValue241⟩
instance:type_of% (Zv.mk zeroValue243):=⟨zeroValue243⟩
instance:type_of% (Zv.mk zeroValue252):=⟨zeroValue252⟩
instance:type_of% (Zv.mk zeroValue270):=⟨zeroValue270⟩
instance:type_of% (Zv.mk zeroValue280):=⟨zeroValue280⟩
instance:If prog 2 (.int .i64 0) 1 8:=⟨by kernel_rfl⟩
instance:If prog 4 (.bool false) 1 1:=⟨by kernel_rfl⟩
instance:If prog 58 ((.slice none 0 0)) 1 24:=⟨by kernel_rfl⟩
instance:If prog 62 (.agg #[.int .i64 0,(.slice none 0 0),(.slice none 0 0),(.slice none 0 0),(.slice none 0 0)]) 5 104:=⟨by kernel_rfl⟩
instance:If prog 67 (.agg #[.int .i64 0,(.slice none 0 0)]) 2 32:=⟨by kernel_rfl⟩
instance:If prog 80 (.agg #[.int .i64 0,(.slice none 0 0)]) 2 32:=⟨by kernel_rfl⟩
instance:If prog 109 (.agg #[.int .i64 0,(.slice none 0 0)]) 2 32:=⟨by kernel_rfl⟩
instance:If prog 165 (.agg #[.int .i64 0,.int .i64 0,.int .i64 0]) 3 24:=⟨by kernel_rfl⟩
instance:If prog 169 (.agg #[(.slice none 0 0),.int .i64 0]) 2 32:=⟨by kernel_rfl⟩
instance:If prog 177 (.agg #[(.slice none 0 0),.int .i64 0,(.slice none 0 0)]) 3 56:=⟨by kernel_rfl⟩
instance:If prog 214 ((.pointer none)) 1 8:=⟨by kernel_rfl⟩
instance:If prog 225 (.agg #[.int .i64 0,.int .i64 0,.int .i64 0]) 3 24:=⟨by kernel_rfl⟩
instance:If prog 241 ((.slice none 0 0)) 1 24:=⟨by kernel_rfl⟩
instance:If prog 243 (.agg #[.int .i64 0,(.slice none 0 0)]) 2 32:=⟨by kernel_rfl⟩
instance:If prog 244 ((.slice none 0 0)) 1 24:=⟨by kernel_rfl⟩
instance:If prog 270 (.agg #[(.slice none 0 0),(.slice none 0 0)]) 2 48:=⟨by kernel_rfl⟩
instance:If prog 280 (.agg #[.int .i64 0,(.slice none 0 0)]) 2 32:=⟨by kernel_rfl⟩
instance:If prog 281 ((.slice none 0 0)) 1 24:=⟨by kernel_rfl⟩
instance:Fd prog 24 0 0:=⟨oHz⟩
instance:Fd prog 24 1 1:=⟨oGe⟩
instance:Fd prog 27 0 0:=⟨oHo⟩
instance:Fd prog 27 1 2:=⟨oGd⟩
instance:Fd prog 27 2 3:=⟨oGj⟩
instance:Fd prog 32 0 0:=⟨oHv⟩
instance:Fd prog 32 1 1:=⟨oHg⟩
instance:Fd prog 35 0 0:=⟨oHj⟩
instance:Fd prog 35 1 2:=⟨oHi⟩
instance:Fd prog 35 2 3:=⟨oGk⟩
instance:Fd prog 54 0 0:=⟨oHc⟩
instance:Fd prog 54 1 1:=⟨oGm⟩
instance:Fd prog 62 1 1:=⟨oIv⟩
instance:Fd prog 67 0 0:=⟨oGa⟩
instance:Fd prog 67 1 1:=⟨oGu⟩
instance:Fd prog 76 0 0:=⟨oGx⟩
instance:Fd prog 76 1 1:=⟨oGi⟩
instance:Fd prog 80 0 0:=⟨oHa⟩
instance:Fd prog 80 1 1:=⟨oGo⟩
instance:Fd prog 85 0 0:=⟨oId⟩
instance:Fd prog 85 1 1:=⟨oHr⟩
instance:Fd prog 105 0 0:=⟨oCa⟩
instance:Fd prog 105 1 1:=⟨oDb⟩
instance:Fd prog 109 0 0:=⟨oCc⟩
instance:Fd prog 109 1 1:=⟨oFd⟩
instance:Fd prog 130 0 0:=⟨oBv⟩
instance:Fd prog 130 1 1:=⟨oEb⟩
instance:Fd prog 130 2 2:=⟨oBx⟩
instance:Fd prog 165 0 0:=⟨oDw⟩
instance:Fd prog 165 1 1:=⟨oEp⟩
instance:Fd prog 165 2 2:=⟨oCj⟩
instance:Fd prog 169 0 0:=⟨oDf⟩
instance:Fd prog 169 1 1:=⟨oCu⟩
instance:Fd prog 177 1 1:=⟨oDu⟩
instance:Fd prog 177 2 2:=⟨oEv⟩
instance:Fd prog 213 0 0:=⟨oBs⟩
instance:Fd prog 213 1 1:=⟨oDq⟩
instance:Fd prog 213 2 2:=⟨oEu⟩
instance:Fd prog 213 3 3:=⟨oDr⟩
instance:Fd prog 213 4 4:=⟨oDn⟩
instance:Fd prog 213 5 5:=⟨oDp⟩
instance:Fd prog 213 6 6:=⟨oCo⟩
instance:Fd prog 213 7 7:=⟨oDk⟩
instance:Fd prog 240 0 0:=⟨oDm⟩
instance:Fd prog 240 1 2:=⟨oEo⟩
instance:Fd prog 240 2 3:=⟨oEs⟩
instance:Fd prog 240 3 4:=⟨oEh⟩
instance:Fd prog 240 4 5:=⟨oEj⟩
instance:Fd prog 240 5 6:=⟨oCz⟩
instance:Fd prog 240 6 7:=⟨oBm⟩
instance:Fd prog 243 0 0:=⟨oDj⟩
instance:Fd prog 243 1 1:=⟨oEa⟩
instance:Fd prog 270 0 0:=⟨oCe⟩
instance:Fd prog 270 1 1:=⟨oDa⟩
instance:Fd prog 277 2 2:=⟨oDe⟩
instance:Fd prog 280 0 0:=⟨oBp⟩
instance:Fd prog 280 1 1:=⟨oCi⟩
instance:Fv prog 130 2 2:=Fv.mk' underlying130 rfl rfl isAgg128
instance:Fv prog 270 1 1:=Fv.mk' underlying270 rfl rfl isAgg58
instance:Cf prog 4:=⟨call4⟩
instance:Cf prog 5:=⟨call5⟩
instance:Cf prog 6:=⟨call6⟩
instance:Cf prog 7:=⟨call7⟩
instance:Cf prog 8:=⟨call8⟩
instance:Cf prog 9:=⟨call9⟩
instance:Cf prog 10:=⟨call10⟩
instance:Cf prog 11:=⟨call11⟩
instance:Cf prog 12:=⟨call12⟩
instance:Cf prog 13:=⟨call13⟩
instance:Cf prog 14:=⟨call14⟩
instance:Cf prog 15:=⟨call15⟩
instance:Cf prog 16:=⟨call16⟩
instance:Cf prog 17:=⟨call17⟩
instance:Cf prog 18:=⟨call18⟩
instance:Cf prog 19:=⟨call19⟩
instance:Cf prog 20:=⟨call20⟩
instance:Cf prog 21:=⟨call21⟩
instance:Cf prog 22:=⟨call22⟩
instance:Cf prog 23:=⟨call23⟩
instance:Cf prog 24:=⟨call24⟩
instance:Cf prog 25:=⟨call25⟩
instance:Cf prog 26:=⟨call26⟩
instance:Cf prog 27:=⟨call27⟩
instance:Cf prog 28:=⟨call28⟩
instance:Cf prog 29:=⟨call29⟩
instance:Cf prog 30:=⟨call30⟩
instance:Cf prog 31:=⟨call31⟩
instance:Cf prog 32:=⟨call32⟩
instance:Cf prog 33:=⟨call33⟩
instance:Cf prog 34:=⟨call34⟩
instance:Cf prog 35:=⟨call35⟩
instance:Cf prog 36:=⟨call36⟩
instance:Cf prog 37:=⟨call37⟩
instance:Cf prog 38:=⟨call38⟩
instance:Cf prog 39:=⟨call39⟩
instance:Cf prog 40:=⟨call40⟩
instance:Cf prog 41:=⟨call41⟩
instance:Cf prog 42:=⟨call42⟩
instance:Cf prog 44:=⟨call44⟩
instance:Cf prog 45:=⟨call45⟩
instance:Cf prog 46:=⟨call46⟩
instance:Cf prog 47:=⟨call47⟩
instance:Cf prog 48:=⟨call48⟩
instance:Cf prog 49:=⟨call49⟩
instance:Cf prog 50:=⟨call50⟩
instance:Cf prog 51:=⟨call51⟩
instance:Cf prog 52:=⟨call52⟩
instance:Cf prog 53:=⟨call53⟩
instance:Cf prog 54:=⟨call54⟩
instance:Cf prog 55:=⟨call55⟩
instance:Cf prog 56:=⟨call56⟩
instance:Cf prog 57:=⟨call57⟩
instance:Cf prog 58:=⟨call58⟩
instance:Cf prog 59:=⟨call59⟩
instance:Cf prog 60:=⟨call60⟩
instance:Cf prog 61:=⟨call61⟩
instance:Cf prog 62:=⟨call62⟩
instance:Cf prog 63:=⟨call63⟩
instance:Cf prog 64:=⟨call64⟩
instance:Cf prog 65:=⟨call65⟩
instance:Cf prog 66:=⟨call66⟩
instance:Cf prog 67:=⟨call67⟩
instance:Cf prog 68:=⟨call68⟩
instance:Cf prog 69:=⟨call69⟩
instance:Cf prog 70:=⟨call70⟩
instance:Cf prog 71:=⟨call71⟩
instance:Cf prog 72:=⟨call72⟩
instance:Cf prog 73:=⟨call73⟩
instance:Cf prog 74:=⟨call74⟩
instance:Cf prog 75:=⟨call75⟩
instance:Cf prog 76:=⟨call76⟩
instance:Cf prog 77:=⟨call77⟩
instance:Cf prog 78:=⟨call78⟩
instance:Cf prog 79:=⟨call79⟩
instance:Cf prog 80:=⟨call80⟩
instance:Cf prog 81:=⟨call81⟩
instance:Cf prog 82:=⟨call82⟩
instance:Cf prog 85:=⟨call85⟩
instance:Cf prog 86:=⟨call86⟩
instance:Cf prog 87:=⟨call87⟩
instance:Cf prog 88:=⟨call88⟩
instance:Cf prog 90:=⟨call90⟩
instance:Cf prog 91:=⟨call91⟩
instance:Cf prog 92:=⟨call92⟩
instance:Cf prog 93:=⟨call93⟩
instance:Cf prog 94:=⟨call94⟩
instance:Cf prog 95:=⟨call95⟩
instance:Cf prog 96:=⟨call96⟩
instance:Cf prog 97:=⟨call97⟩
instance:Cf prog 98:=⟨call98⟩
instance:Cf prog 99:=⟨call99⟩
instance:Cf prog 100:=⟨call100⟩
instance:Cf prog 101:=⟨call101⟩
instance:Cf prog 102:=⟨call102⟩
instance:Cf prog 103:=⟨call103⟩
instance:Cf prog 104:=⟨call104⟩
instance:Cf prog 105:=⟨call105⟩
instance:Cf prog 106:=⟨call106⟩
instance:Cf prog 107:=⟨call107⟩
instance:Cf prog 108:=⟨call108⟩
instance:Cf prog 109:=⟨call109⟩
instance:Cf prog 110:=⟨call110⟩
instance:Cf prog 111:=⟨call111⟩
instance:Cf prog 112:=⟨call112⟩
instance:Cf prog 113:=⟨call113⟩
instance:Cf prog 114:=⟨call114⟩
instance:Cf prog 115:=⟨call115⟩
instance:Cf prog 116:=⟨call116⟩
instance:Cf prog 117:=⟨call117⟩
instance:Cf prog 121:=⟨call121⟩
instance:Cf prog 123:=⟨call123⟩
instance:Cf prog 124:=⟨call124⟩
instance:Cf prog 126:=⟨call126⟩
instance:Cf prog 127:=⟨call127⟩
instance:Cf prog 128:=⟨call128⟩
instance:Cf prog 129:=⟨call129⟩
instance:Cf prog 131:=⟨call131⟩
instance:Cf prog 132:=⟨call132⟩
instance:Cf prog 133:=⟨call133⟩
instance:Cf prog 134:=⟨call134⟩
instance:Cf prog 135:=⟨call135⟩
instance:Cf prog 136:=⟨call136⟩
instance:Cf prog 138:=⟨call138⟩
instance:Cf prog 139:=⟨call139⟩
instance:Cf prog 141:=⟨call141⟩
instance:Cf prog 142:=⟨call142⟩
instance:Cf prog 143:=⟨call143⟩
instance:Cf prog 144:=⟨call144⟩
instance:Cf prog 145:=⟨call145⟩
instance:Cf prog 146:=⟨call146⟩
instance:Cf prog 148:=⟨call148⟩
instance:Cf prog 150:=⟨call150⟩
instance:Cf prog 151:=⟨call151⟩
instance:Cf prog 152:=⟨call152⟩
instance:Cf prog 153:=⟨call153⟩
instance:Cf prog 154:=⟨call154⟩
instance:Cf prog 155:=⟨call155⟩
instance:Cf prog 156:=⟨call156⟩
instance:Cf prog 157:=⟨call157⟩
instance:Cf prog 158:=⟨call158⟩
instance:Cf prog 159:=⟨call159⟩
instance:Cf prog 160:=⟨call160⟩
instance:Cf prog 161:=⟨call161⟩
instance:Cf prog 162:=⟨call162⟩
instance:Cf prog 163:=⟨call163⟩
instance:Cf prog 164:=⟨call164⟩
instance:Cf prog 165:=⟨call165⟩
instance:Cf prog 166:=⟨call166⟩
instance:Cf prog 167:=⟨call167⟩
instance:Cf prog 168:=⟨call168⟩
instance:Cf prog 169:=⟨call169⟩
instance:Cf prog 170:=⟨call170⟩
instance:Cf prog 171:=⟨call171⟩
instance:Cf prog 172:=⟨call172⟩
instance:Cf prog 173:=⟨call173⟩
instance:Cf prog 174:=⟨call174⟩
instance:Cf prog 175:=⟨call175⟩
instance:Cf prog 176:=⟨call176⟩
instance:Cf prog 177:=⟨call177⟩
instance:Cf prog 178:=⟨call178⟩
instance:Cf prog 179:=⟨call179⟩
instance:Cf prog 180:=⟨call180⟩
instance:Cf prog 183:=⟨call183⟩
instance:Cf prog 184:=⟨call184⟩
instance:Cf prog 185:=⟨call185⟩
instance:Cf prog 186:=⟨call186⟩
instance:Cf prog 188:=⟨call188⟩
instance:Cf prog 189:=⟨call189⟩
instance:Cf prog 190:=⟨call190⟩
instance:Cf prog 191:=⟨call191⟩
instance:Cf prog 196:=⟨call196⟩
instance:Cf prog 198:=⟨call198⟩
instance:Cf prog 200:=⟨call200⟩
instance:Cf prog 201:=⟨call201⟩
instance:Cf prog 203:=⟨call203⟩
instance:Cf prog 207:=⟨call207⟩
instance:Cf prog 210:=⟨call210⟩
instance:Cf prog 211:=⟨call211⟩
instance:Cf prog 212:=⟨call212⟩
instance:Cf prog 213:=⟨call213⟩
instance:Cf prog 214:=⟨call214⟩
instance:Cf prog 215:=⟨call215⟩
instance:Cf prog 216:=⟨call216⟩
instance:Cf prog 217:=⟨call217⟩
instance:Cf prog 218:=⟨call218⟩
instance:Cf prog 219:=⟨call219⟩
instance:Cf prog 221:=⟨call221⟩
instance:Cf prog 222:=⟨call222⟩
instance:Cf prog 223:=⟨call223⟩
instance:Cf prog 224:=⟨call224⟩
instance:Cf prog 225:=⟨call225⟩
instance:Cf prog 226:=⟨call226⟩
instance:Cf prog 227:=⟨call227⟩
instance:Cf prog 228:=⟨call228⟩
instance:Cf prog 229:=⟨call229⟩
instance:Cf prog 230:=⟨call230⟩
instance:Cf prog 231:=⟨call231⟩
instance:Cf prog 232:=⟨call232⟩
instance:Cf prog 233:=⟨call233⟩
instance:Cf prog 234:=⟨call234⟩
instance:Cf prog 235:=⟨call235⟩
instance:Cf prog 236:=⟨call236⟩
instance:Cf prog 241:=⟨call241⟩
instance:Cf prog 244:=⟨call244⟩
instance:Cf prog 247:=⟨call247⟩
instance:Cf prog 250:=⟨call250⟩
instance:Cf prog 251:=⟨call251⟩
instance:Cf prog 253:=⟨call253⟩
instance:Cf prog 256:=⟨call256⟩
instance:Cf prog 257:=⟨call257⟩
instance:Cf prog 261:=⟨call261⟩
instance:Cf prog 262:=⟨call262⟩
instance:Cf prog 264:=⟨call264⟩
instance:Cf prog 265:=⟨call265⟩
instance:Cf prog 267:=⟨call267⟩
instance:Cf prog 269:=⟨call269⟩
instance:Cf prog 274:=⟨call274⟩
instance:Cf prog 275:=⟨call275⟩
instance:Cf prog 276:=⟨call276⟩
instance:type_of% (BdT.mk underlying62 zeroValue62 (λw=>by simp [sizeOf2,sizeOf58,sizeOf59,sizeOf60];rfl)):=⟨underlying62,zeroValue62,(λw=>by simp [sizeOf2,sizeOf58,sizeOf59,sizeOf60])⟩
instance:type_of% (BdT.mk underlying80 zeroValue80 (λw=>by simp [sizeOf2,sizeOf74];rfl)):=⟨underlying80,zeroValue80,(λw=>by simp [sizeOf2,sizeOf74])⟩
instance:type_of% (BdT.mk underlying85 zeroValue85 (λw=>by simp [sizeOf2,sizeOf58];rfl)):=⟨underlying85,zeroValue85,(λw=>by simp [sizeOf2,sizeOf58])⟩
instance:type_of% (BdT.mk underlying165 zeroValue165 (λw=>by simp [sizeOf2];rfl)):=⟨underlying165,zeroValue165,(λw=>by simp [sizeOf2])⟩
instance:type_of% (BdT.mk underlying177 zeroValue177 (λw=>by simp [sizeOf2,sizeOf58];rfl)):=⟨underlying177,zeroValue177,(λw=>by simp [sizeOf2,sizeOf58])⟩
instance:type_of% (BdT.mk underlying213 zeroValue213 (λw=>by simp [sizeOf2,sizeOf210,sizeOf211,sizeOf4,sizeOf56,sizeOf58];rfl)):=⟨underlying213,zeroValue213,(λw=>by simp [sizeOf2,sizeOf210,sizeOf211,sizeOf4,sizeOf56,sizeOf58])⟩
instance:type_of% (BdT.mk underlying225 zeroValue225 (λw=>by simp [sizeOf2];rfl)):=⟨underlying225,zeroValue225,(λw=>by simp [sizeOf2])⟩
instance:type_of% (BdT.mk underlying240 zeroValue240 (λw=>by simp [sizeOf2,sizeOf237,sizeOf238,sizeOf3,sizeOf32,sizeOf58];rfl)):=⟨underlying240,zeroValue240,(λw=>by simp [sizeOf2,sizeOf237,sizeOf238,sizeOf3,sizeOf32,sizeOf58])⟩
instance:type_of% (BdT.mk underlying243 zeroValue243 (λw=>by simp [sizeOf3,sizeOf58];rfl)):=⟨underlying243,zeroValue243,(λw=>by simp [sizeOf3,sizeOf58])⟩
instance:type_of% (BdT.mk underlying270 zeroValue270 (λw=>by simp [sizeOf58];rfl)):=⟨underlying270,zeroValue270,(λw=>by simp [sizeOf58])⟩
instance:type_of% (BdT.mk underlying277 zeroValue277 (λw=>by simp [sizeOf2,sizeOf241];rfl)):=⟨underlying277,zeroValue277,(λw=>by simp [sizeOf2,sizeOf241])⟩
instance:type_of% (BdT.mk underlying280 zeroValue280 (λw=>by simp [sizeOf3,sizeOf58];rfl)):=⟨underlying280,zeroValue280,(λw=>by simp [sizeOf3,sizeOf58])⟩
end
section
set_option maxRecDepth 100000
open Go.Shelf
def xLi:Go.Shelf.Ren:=⟨λ| 53=>239 | 64=>271 | 63=>270 | 78=>287 | 79=>288 | 70=>278 | 71=>279 | 72=>280 | 73=>281 | 74=>282 | 75=>283 | 59=>284 | 76=>285 | 77=>286 | 88=>289 | 89=>290 | 90=>291 | 91=>292 | 92=>293 | 68=>184 | 96=>294 | n=>n,λ| 22=>58 | 23=>2 | 3=>3 | 51=>256 | 0=>0 | 67=>287 | 69=>290 | 4=>4 | 61=>312 | 60=>311 | 44=>293 | 5=>5 | 9=>9 | 75=>319 | 79=>323 | 83=>325 | 84=>326 | n=>n,λ| n=>n⟩
theorem oKv:Go.Proofs.SlLaysN.n53 Tryz.prog xLi:={
  mixed:=by kernel_rfl
  f53:=⟨Tryz.f239.name,by decide,Tryz.func239.trans (congrArg some (by kernel_rfl))⟩
  f59:=⟨Tryz.f284.name,by decide,Tryz.func284.trans (congrArg some (by kernel_rfl))⟩
  f63:=⟨Tryz.f270.name,by decide,Tryz.func270.trans (congrArg some (by kernel_rfl))⟩
  f64:=Tryz.func271.trans (congrArg some (by kernel_rfl))
  f68:=⟨Tryz.f184.name,by decide,Tryz.func184.trans (congrArg some (by kernel_rfl))⟩
  f70:=⟨Tryz.f278.name,by decide,Tryz.func278.trans (congrArg some (by kernel_rfl))⟩
  f71:=⟨Tryz.f279.name,by decide,Tryz.func279.trans (congrArg some (by kernel_rfl))⟩
  f72:=⟨Tryz.f280.name,by decide,Tryz.func280.trans (congrArg some (by kernel_rfl))⟩
  f73:=⟨Tryz.f281.name,by decide,Tryz.func281.trans (congrArg some (by kernel_rfl))⟩
  f74:=⟨Tryz.f282.name,by decide,Tryz.func282.trans (congrArg some (by kernel_rfl))⟩
  f75:=⟨Tryz.f283.name,by decide,Tryz.func283.trans (congrArg some (by kernel_rfl))⟩
  f76:=⟨Tryz.f285.name,by decide,Tryz.func285.trans (congrArg some (by kernel_rfl))⟩
  f77:=⟨Tryz.f286.name,by decide,Tryz.func286.trans (congrArg some (by kernel_rfl))⟩
  f78:=Tryz.func287.trans (congrArg some (by kernel_rfl))
  f79:=Tryz.func288.trans (congrArg some (by kernel_rfl))
  f88:=⟨Tryz.f289.name,by decide,Tryz.func289.trans (congrArg some (by kernel_rfl))⟩
  f89:=Tryz.func290.trans (congrArg some (by kernel_rfl))
  f90:=Tryz.func291.trans (congrArg some (by kernel_rfl))
  f91:=⟨Tryz.f292.name,by decide,Tryz.func292.trans (congrArg some (by kernel_rfl))⟩
  f92:=⟨Tryz.f293.name,by decide,Tryz.func293.trans (congrArg some (by kernel_rfl))⟩
  f96:=⟨Tryz.f294.name,by decide,Tryz.func294.trans (congrArg some (by kernel_rfl))⟩
  t0:=Tryz.underlying0
  a0:=Tryz.isAgg0
  z0:=Tryz.sizeOf0
  v0:=Tryz.zeroValue0
  t3:=Tryz.underlying3
  a3:=Tryz.isAgg3
  z3:=Tryz.sizeOf3
  v3:=Tryz.zeroValue3
  t4:=Tryz.underlying4
  a4:=Tryz.isAgg4
  z4:=Tryz.sizeOf4
  v4:=Tryz.zeroValue4
  t5:=Tryz.underlying5
  a5:=Tryz.isAgg5
  z5:=Tryz.sizeOf5
  v5:=Tryz.zeroValue5
  t9:=Tryz.underlying9
  a9:=Tryz.isAgg9
  z9:=Tryz.sizeOf9
  v9:=Tryz.zeroValue9
  t22:=Tryz.underlying58
  a22:=Tryz.isAgg58
  z22:=Tryz.sizeOf58
  v22:=Tryz.zeroValue58
  t23:=Tryz.underlying2
  a23:=Tryz.isAgg2
  z23:=Tryz.sizeOf2
  v23:=Tryz.zeroValue2
  t44:=Tryz.underlying293
  a44:=Tryz.isAgg293
  z44:=Tryz.sizeOf293
  v44:=Tryz.zeroValue293
  t51:=Tryz.underlying256
  a51:=Tryz.isAgg256
  z51:=Tryz.sizeOf256
  v51:=Tryz.zeroValue256
  t60:=Tryz.underlying311
  a60:=Tryz.isAgg311
  z60:=Tryz.sizeOf311
  v60:=Tryz.zeroValue311
  t61:=Tryz.underlying312
  a61:=Tryz.isAgg312
  z61:=Tryz.sizeOf312
  v61:=Tryz.zeroValue312
  t67:=Tryz.underlying287
  a67:=Tryz.isAgg287
  z67:=Tryz.sizeOf287
  v67:=Tryz.zeroValue287
  t69:=Tryz.underlying290
  a69:=Tryz.isAgg290
  z69:=Tryz.sizeOf290
  v69:=Tryz.zeroValue290
  t75:=Tryz.underlying319
  a75:=Tryz.isAgg319
  z75:=Tryz.sizeOf319
  v75:=Tryz.zeroValue319
  t79:=Tryz.underlying323
  a79:=Tryz.isAgg323
  z79:=Tryz.sizeOf323
  v79:=Tryz.zeroValue323
  t83:=Tryz.underlying325
  a83:=Tryz.isAgg325
  z83:=Tryz.sizeOf325
  v83:=Tryz.zeroValue325
  t84:=Tryz.underlying326
  a84:=Tryz.isAgg326
  z84:=Tryz.sizeOf326
  v84:=Tryz.zeroValue326 }
end
section
set_option maxRecDepth 100000
open Go.RowKit Go.Sort Go.Lib
theorem oIj {E B:Nat} {w:Wd} {v:Vl} {l:List Int} {rb:List Nat} (A:Row 1 xF E B w v l rb []) (hl:0<l.length) :
 ∃ g cap cur,v= .slice (some ⟨g,0,none⟩) l.length cap/\rb=[g]/\nA w g cur E/\l.length<=cap/\cap<=maxLen/\cur.size=cap/\(∀ (i:Nat) (x:Int),l[i]?=some x->cur[i]?=some (Value.int .i64 x))/\∀ x∈l,xL x:=by
 obtain⟨xs,bss,ho,hbl,hfl,he⟩:=A.row;have hrb:=A.hrb
 have qa:∀ (i:Nat) (x:Int),l[i]?=some x->xs[i]?=some (.int .i64 x)/\xL x:=by
  intro i x hx;have hi:=(Ac.1 hx).1;obtain⟨h1,h2,_⟩:=he i x bss[i] hx (Aa (by omega));exact⟨by simpa using h1,h2⟩
 rcases ho.2 with ⟨rfl,hn⟩ | ⟨g,cap,cur,rfl,hbg,hg,h4,h5,h6,h7⟩
 ·omega
 ·refine⟨g,cap,cur,rfl,?_,hg,h4,h5,by omega,λi x hx=>?_,λx hx=>?_⟩
  ·rw[hrb];simp [uE,Value.ownBlock]
  ·have hi:=(Ac.1 hx).1
   have:=(qa i x hx).1;rw[<- h7,Be,if_pos (by omega)] at this
   simpa using this
  ·obtain⟨i,hi,rfl⟩:=List.mem_iff_getElem.1 hx
   exact(qa i _ (Aa hi)).2
theorem oHf {E g cap:Nat} {w:Wd} {l:List Int} {cur:Array Vl} (hK:nA w g cur E) (h4:l.length<=cap) (h5:cap<=maxLen) (h6:cur.size=cap) (h7:∀ (i:Nat) (x:Int),l[i]?=some x->cur[i]?=some (Value.int .i64 x)) (hI:∀ x∈l,xL x) :
 Row 1 xF E 0 w (.slice (some ⟨g,0,none⟩) l.length cap) l [g] []:=by
 refine⟨⟨l.map (λx=>Value.int .i64 x),List.replicate l.length [],⟨by simp,.inr ⟨g,cap,cur,rfl,Dc _,hK,h4,h5,by omega,?_⟩⟩,by simp,by simp,λi x bi hx hb=>?_⟩,by simp [uE,Value.ownBlock],zW.nil _,Dj.nil _⟩
 ·refine Cs (λm=>?_)
  rw[Be,Ay]
  split
  ·rename_i hm
   have:l[m]?=some (l[m]'(by omega)):=Aa (by omega);rw[Dp,this,h7 m _ this]
   rfl
  ·rename_i hm
   rw[Cg (by omega)]
   rfl
 ·have qa:=Ca (Ae hb)
  refine⟨?_,hI x (Ae hx),qa⟩
  show(List.map (λx=>Value.int .i64 x) l)[i*1+0]?=_
  rw[Ce,Cb,Ay,hx]
  rfl
theorem xTu {E g:Nat} {w:Wd} {cur:Array Vl} (hK:nA w g cur E) (d:Array Int):nA (putRow (Value.int .i64) w g 0 d) g (putCells (Value.int .i64) 0 d cur) E/\B5 [g] w (putRow (Value.int .i64) w g 0 d):=by
 have hlt:=hK.lt
 unfold nA at hK ⊢
 unfold putRow mapBlock
 refine⟨?_,rfl,rfl,rfl,?_,λk hk hn=>?_⟩
 ·simp only[Array.getElem?_modify,if_true,hK]
  rfl
 ·simp
 ·simp only[Array.getElem?_modify]
  rw[if_neg (λe=>hn (by simp [e]))]
theorem oBt {E B:Nat} {w:Wd} {v:Vl} {l:List Int} {rb:List Nat} (A:Row 1 xF E B w v l rb []) (hl:l.length=0):∃ p cap,v= .slice p 0 cap:=by
 obtain⟨xs,bss,ho,_⟩:=A.row
 rcases ho.2 with ⟨rfl,hn⟩ | ⟨g,cap,cur,rfl,_⟩
 ·exact⟨none,0,rfl⟩
 ·exact⟨_,cap,by rw[hl]⟩
end
section
set_option maxRecDepth 100000
open Go.RowKit Go.Sort Go.Lib
def zS (x0:List Int):Option (List Int):= if x0.length<=1048576 then some (x0.mergeSort λx y=>decide (x<=y)) else none
theorem tH {x0:List Int} (r:List Int) (hR:zS x0=some r) {v0:Vl} {rb0:List Nat} (w0:Wd) (A0:Row 1 xF 2 0 w0 v0 x0 rb0 []):Calls Tryz.prog 239 #[v0] w0 (xZg rb0 (λv w'=>v= .tuple #[]/\Row 1 xF 2 0 w' v0 r rb0 []) w0):=by
 unfold zS at hR
 split at hR
 case isFalse=>cases hR
 rename_i hc;obtain rfl:=Option.some.inj hR
 clear hR
 rcases Nat.eq_zero_or_pos x0.length with hz | hz
 ·obtain⟨p,cap,rfl⟩:=oBt A0 hz
  obtain rfl:=Bw.1 hz;refine(show Calls Tryz.prog 239 #[.slice p 0 cap] w0 _ from by simpa [xLi] using AnyG.slices_Sort_int_none oKv p cap w0).mono ?_
  rintro e w' ⟨rfl,rfl⟩
  exact⟨_,rfl,B5.refl _ _,rfl,by rw[List.mergeSort_nil];exact A0⟩
 obtain⟨g,cap,cur,rfl,rfl,hK,hle,qf,qg,qa,hI⟩:=oIj A0 hz
 have hH:Holds (Value.int .i64) w0 g 0 x0.toArray:=by
  intro j hj
  have qh:j<x0.length:=by simpa using hj
  refine⟨?_,hK.frozen _⟩;rw[Bj,hK.cell,qa j _ (Aa qh),getElem!_pos x0.toArray j hj]
  simp
 have h:=AnyG.slices_Sort_int oKv g 0 cap x0 w0 hH hK.lt (by omega);refine(show Calls Tryz.prog 239 #[.slice (some ⟨g,0,none⟩) x0.length cap] w0 _ from by simpa [xLi] using h).mono ?_
 rintro e w' ⟨rfl,q,os,rfl⟩
 have qe:(x0.mergeSort λx y=>decide (x<=y)).length=x0.length:=List.length_mergeSort _;obtain⟨m,hm⟩:∃ m,m=x0.mergeSort λx y=>decide (x<=y):=⟨_,rfl⟩
 have qc:∀ x∈m,x∈x0:=λx hx=>by rw[hm] at hx;exact List.mem_mergeSort.1 hx
 rw[<- hm] at qe ⊢;have qi:nA (Go.Sort.ahead w0 q) g cur 2:=hK;have hq:B5 [g] w0 (Go.Sort.ahead w0 q):=⟨rfl,rfl,rfl,Az _,λ_ _ _=>rfl⟩;obtain⟨k1,k2⟩:=xTu qi m.toArray;have qj:=hq.trans k2
 have hg:B5 [g] w0 (grow (putRow (Value.int .i64) (Go.Sort.ahead w0 q) g 0 m.toArray) os):=by
  refine qj.trans ⟨rfl,rfl,rfl,by simp [grow],λk hk _=>heap_grow_old _ _ hk⟩
 have k3:nA (grow (putRow (Value.int .i64) (Go.Sort.ahead w0 q) g 0 m.toArray) os) g (putCells (Value.int .i64) 0 m.toArray cur) 2:=by
  unfold nA at k1 ⊢
  rw[heap_grow_old _ _ (xEd k1),k1]
 have R:=oHf (l:=m) k3 (by omega) qf (by simp [putCells,qg]) (λi x hx=>by
  have hi:=(Ac.1 hx).1
  have qd:i<cur.size:=by omega
  unfold putCells
  rw[Array.getElem?_mapIdx,Cw qd,Cr,if_pos ⟨Dc _,by simp;omega⟩,Ey]
  have hg:(m.toArray)[i]! = x:=by
   rw[getElem!_pos m.toArray i (by simpa using hi)];simp only[List.getElem_toArray];exact(Ac.1 hx).2
  rw[hg]) (λx hx=>hI x (qc x hx))
 rw[qe] at R;exact⟨_,rfl,hg,rfl,R⟩
end
section
open Go.RowKit
section
variable {ops:Array Oper} {Q:Exit->Act->Wd->Prop} {a:Act} {w w0:Wd} {n:Nat} {L:List (Nat×Vl)} {rest:List Oper} {d:Nat} {dd:Option Tmp} {ty:Ty} {pos:String} {af:Array Edge} {g:Option (Nat×Bool)} {N:Nat->Prop} {X:List Nat} {D:List As} {P:Program}
theorem oJg {xs:List Operand} {at':Array Ty} {v:Vl} {l r:List Int} (F:Sk a n L) (hc:vO ops n L g d=true) (hf:∀ args w,(callFunc 239 args).run Tryz.prog w= .ok (.enter 239 args) w) (e:evs L xs=some [v]) (H:Sep X N w0 w (rl 1 xF 2 v l::D)) (hr:zS l=some r) (k:∀ a' w',Sep X N w0 w' (rl 1 xF 2 v r::D)->Sk a' n ((d,.tuple #[])::L)->wpList Tryz.prog ops Q rest a' w'):wpList Tryz.prog ops Q (⟨some d,.call ⟨.value (.func 239),xs.toArray,at'⟩,ty,pos,af,g⟩::rest) a w:=by
 obtain⟨Y,⟨rb,ib,r1,ho,r2,r3⟩,hN,hY,tr⟩:=H.hd;obtain rfl:=xBo r1;refine oAy F hc hf e (tH r hr w r1) (λa' v' w' l' ⟨hv,q⟩ F'=>?_);subst hv;exact k a' w' (tr (Z:=rb) r2 l' (B:=rl 1 xF 2 v r) (Y1:=Y) ⟨rb,[],q,Own.nil _ _,r2,λ_ h=>nomatch h⟩ n0 (λc hc=>⟨.inl hc,At (hY c hc).1 l'.size⟩)) F'
end
end
section
open Go.RowKit
section
variable {ops:Array Oper} {Q:Exit->Act->Wd->Prop} {n:Nat} {X:List Nat} {N:Nat->Prop} {w0:Wd} {L:List (Nat×Vl)} {D:List As} {ρ:Type} {tt:Option ρ} {CC:ρ->Prop} {rest:List Oper} {d:Nat} {ty:Ty} {pos:String} {af:Array Edge} {g:Option (Nat×Bool)}
theorem oJm {xs:List Operand} {at':Array Ty} {v:Vl} {l r:List Int} (hr:zS l=some r) (kt:J n X N w0 ((d,.tuple #[])::L) (rl 1 xF 2 v r::D) tt CC (wpList Tryz.prog ops Q rest)) (hc:vO ops n L g d=true:=by rfl) (e:evs L xs=some [v]:=by rfl) : J n X N w0 L (rl 1 xF 2 v l::D) tt CC (wpList Tryz.prog ops Q (⟨some d,.call ⟨.value (.func 239),xs.toArray,at'⟩,ty,pos,af,g⟩::rest)):=⟨λa w F H xq h1 h2=>oJg F hc Tryz.call239 e H hr (λa' w' H' F'=>kt.h a' w' F' H' xq h1 h2)⟩
end
end
section
set_option maxRecDepth 100000
open Go.Shelf
def xZu:Go.Shelf.Ren:=⟨λ| 212=>208 | 263=>245 | 264=>246 | n=>n,λ| 46=>256 | 51=>287 | 146=>288 | 53=>290 | 148=>291 | n=>n,λ| n=>n⟩
theorem layM:Go.Proofs.Lays.n212 Tryz.prog xZu:={
  mixed:=by kernel_rfl
  f212:=Tryz.func208.trans (congrArg some (by kernel_rfl))
  f263:=Tryz.func245.trans (congrArg some (by kernel_rfl))
  f264:=Tryz.func246.trans (congrArg some (by kernel_rfl))
  t46:=Tryz.underlying256
  a46:=Tryz.isAgg256
  z46:=Tryz.sizeOf256
  v46:=Tryz.zeroValue256
  t51:=Tryz.underlying287
  a51:=Tryz.isAgg287
  z51:=Tryz.sizeOf287
  v51:=Tryz.zeroValue287
  t53:=Tryz.underlying290
  a53:=Tryz.isAgg290
  z53:=Tryz.sizeOf290
  v53:=Tryz.zeroValue290
  t146:=Tryz.underlying288
  a146:=Tryz.isAgg288
  z146:=Tryz.sizeOf288
  v146:=Tryz.zeroValue288
  t148:=Tryz.underlying291
  a148:=Tryz.isAgg291
  z148:=Tryz.sizeOf291
  v148:=Tryz.zeroValue291 }
end
section
set_option maxRecDepth 100000
open Go.RowKit
variable {y:Operand} {x:Operand}
theorem Row.setI {E B:Nat} {g c i n:Nat} {w:Wd} {l:List Int} {z:Int} (hn:l.length=n) (A:Row 1 xF E B w (.slice (some ⟨g,0,none⟩) n c) l [g] []) (hi:i<n) (hz:xL z) :
 Row 1 xF E B (w.setCell ⟨g,i,none⟩ (.int .i64 z)) (.slice (some ⟨g,0,none⟩) n c) (l.set i z) [g] []/\B5 [g] w (w.setCell ⟨g,i,none⟩ (.int .i64 z)):=by
 subst hn;obtain⟨xs,bss,ho,hl,qe,he⟩:=A.row
 rcases ho.2 with ⟨h,_⟩ | ⟨g3,cap,cur,h,h2,h3,h4,h5,h6,h7⟩
 ·cases h
 simp only[Value.slice.injEq,Option.some.injEq,Addr.mk.injEq,and_true,true_and] at h;obtain⟨rfl,rfl⟩:=h;have qa:=ho.1;rw[Ce] at qa h6 h7
 have hcur:i<cur.size:=by omega
 have hK:nA w g cur E:=h3;have hO:B5 [g] w (w.setCell ⟨g,i,none⟩ (.int .i64 z)):=⟨rfl,rfl,rfl,by simp,λk _ hk=>Below.heap_setCell _ _ _ _ (by simpa using hk)⟩
 have qg:∀ j bj,bss[j]?=some bj->bj=[]:=λj bj h=>by
  have:=Ae h;exact Du.1 qe bj this
 refine⟨⟨⟨xs.set i (.int .i64 z),bss,⟨by simp [qa],.inr ⟨g,c,cur.setIfInBounds i (.int .i64 z),by simp,h2,hK.set_at rfl,by simpa using h4,h5,by simpa using h6,?_⟩⟩,by simp [hl],qe,λj y' bj qc qf=>?_⟩,rfl,zW.nil _,λb hb hm=>nomatch hm⟩,hO⟩
 ·simp only[Cn,Ce,Array.toList_setIfInBounds]
  rw[List.take_set,h7]
 ·rw[Ce]
  obtain rfl:=qg j bj qf
  by_cases qd:j=i
  ·subst qd
   rw[Al hi] at qc
   cases qc
   exact⟨by show(xs.set j _)[j+0]?=_;rw[Cb,Al (by omega)],hz,rfl⟩
  ·rw[Aj (λe=>qd e.symm)] at qc
   have hm:=he j y' _ qc qf;rw[Ce] at hm;refine⟨?_,hm.2.1,rfl⟩
   show(xs.set i _)[j+0]?=_
   rw[Cb,Aj (λe=>qd e.symm)];exact hm.1
theorem Row.setsI {E B:Nat} {g c n:Nat}:∀ (m:List Int) (k:Nat) {w:Wd} {l:List Int} (hn:l.length=n) (A:Row 1 xF E B w (.slice (some ⟨g,0,none⟩) n c) l [g] []) (hk:k+m.length<=n) (hm:∀ x∈m,xL x),
 Row 1 xF E B (w.setCells g k (m.map (Value.int .i64))) (.slice (some ⟨g,0,none⟩) n c) (l.take k++m++l.drop (k+m.length)) [g] []/\B5 [g] w (w.setCells g k (m.map (Value.int .i64)))
 | [],k,w,l,hn,A,_,_=>by
  simp only[Ep,World.setCells,Cd,Bi,Cb,Es];exact⟨A,B5.refl _ _⟩
 | x::m,k,w,l,hn,A,hk,hm=>by
  rw[Am] at hk;obtain⟨A1,o1⟩:=A.setI hn (i:=k) (by omega) (hm x (by simp));obtain⟨A2,o2⟩:=Row.setsI m (k+1) (by rw[Cn];exact hn) A1 (by omega) (λy hy=>hm y (by simp [hy]))
  have e:l.take k++(x::m)++l.drop (k+(x::m).length)=(l.set k x).take (k+1)++m++(l.set k x).drop (k+1+m.length):=by
   rw[List.drop_set,if_pos (by omega),List.take_set,Am,show k+1+m.length=k+(m.length+1) by omega]
   congr 1
   rw[List.append_cons]
   congr 1
   apply Cs
   intro j
   by_cases h1:j<k
   ·rw[Bs (by rw[Bc];omega),Aj (by omega),Be,Be,if_pos h1,if_pos (by omega)]
   ·by_cases h2:j=k
    ·subst h2
     rw[Bb (by rw[Bc];omega),Al (by rw[Bc];omega),Bc,Eu (by omega)]
     simp
    ·rw[Cg (by simp;omega),Cg (by simp;omega)]
  rw[e];exact⟨A2,o1.trans o2⟩
def oJq (v:Vl) (N k:Nat) (p:Vl):Prop:=∃ d c',p= .slice d (N - k) c'/\(k<N->∃ g c,v= .slice (some ⟨g,0,none⟩) N c/\d=some ⟨g,k,none⟩)
section
variable {P:Program} {ops:Array Oper} {Q:Exit->Act->Wd->Prop} {a:Act} {w w0:Wd} {n:Nat} {L:List (Nat×Vl)} {rest:List Oper} {d:Nat} {ty:Ty} {pos:String} {af:Array Edge} {g:Option (Nat×Bool)} {N:Nat->Prop} {X:List Nat} {D:List As}
theorem oKb {t t' E:Ty} {v p u:Vl} {l m ll:List Int} {k:Nat} {ib:List Nat} (ht:P.underlying t=some (.slice E)) (hs:(P.info? E).map (·.size)=some 1)
 (F:Sk a n L) (hc:vO ops n L g d=true) (hx:ev L x=some p) (hy:ev L y=some u) (H:Sep X N w0 w (rl 1 xF E v l::D)) (hp:oJq v l.length k p) (hk:k<=l.length) (hu:Src 1 xF w u m ib) (qe:ll=l.take k++m.take (l.length - k)++l.drop (k+m.length))
 (kk:∀ a' w',Sep X N w0 w' (rl 1 xF E v ll::D)->Sk a' n ((d,.int .i64 ((min m.length (l.length - k):Nat):Int))::L)->wpList P ops Q rest a' w'):wpList P ops Q (⟨some d,.call ⟨.builtin .copy,#[x,y],#[t,t']⟩,ty,pos,af,g⟩::rest) a w:=by
 obtain⟨dd,c',rfl,hp⟩:=hp
 have qg:∃ ua uc,u= .slice ua m.length uc:=by
  rcases hu.2 with ⟨rfl,rfl,_⟩ | ⟨ad,uc,_,_,rfl,_⟩
  ·exact⟨_,_,rfl⟩
  ·exact⟨_,_,rfl⟩
 have qf:∀ {r:Vl} {w':Wd},(Builtin.copy_ #[t,t'] ty #[.slice dd (l.length - k) c',u]).run P w= .ok r w'->(execOp a.eval ⟨some d,.call ⟨.builtin .copy,#[x,y],#[t,t']⟩,ty,pos,af,g⟩).run P w= .ok (.value r) w':=λ{r w'} h=>by
  rw[BigFrame.execOp_builtin,BigFrame.builtin_copy];simp only[Di,Da,Ep,F.ev hx,F.ev hy]
  simp [h]
 by_cases h0:min m.length (l.length - k)=0
 ·have el:ll=l:=by
   rw[qe]
   rcases(by omega:m.length=0∨l.length - k=0) with h | h
   ·obtain rfl:=Bw.1 h
    simp
   ·rw[h,Ck (by omega),Cp (by omega)]
    simp
  obtain⟨ua,uc,rfl⟩:=qg;refine zT F hc (qf (run_copy_none (P:=P) w t t' ty E dd ua (l.length - k) c' m.length uc ht hs (by rw[Nat.min_comm] at h0;simpa using (by omega:min m.length (l.length - k)=0)))) (λa' F'=>?_);rw[el] at kk;rw[h0] at kk;exact kk a' w H F'
 ·obtain⟨g1,c,rfl,rfl⟩:=hp (by omega)
  obtain⟨Y,⟨rb,ib0,r1,ho,r2,r3⟩,hN,hY,tr⟩:=H.hd;obtain rfl:=xBo r1;have hrb:=r1.hrb
  simp [uE,Value.ownBlock] at hrb
  subst hrb
  rcases hu.2 with ⟨_,rfl,_⟩ | ⟨ad,uc,ys,css,rfl,hyl,qh,hcs,hcf,hr⟩
  ·simp at h0
  have hm:∀ j z,m[j]?=some z->ys[j]?=some (Value.int .i64 z)/\xL z:=λj z hz=>by
   have hj:=(Ac.1 hz).1;have:=hr j z _ hz (Aa (by omega));rw[Ce] at this;exact⟨by simpa using this.1,this.2.1⟩
  have hI:∀ z∈m.take (l.length - k),xL z:=λz hz=>by
   obtain⟨j,hj⟩:=List.mem_iff_getElem?.1 (Dt hz);exact(hm j z hj).2
  have qc:(m.take (l.length - k)).length=min m.length (l.length - k):=by rw[Bc,Nat.min_comm]
  obtain⟨r1',o1⟩:=Row.setsI (m.take (l.length - k)) k rfl r1 (by omega) hI
  have qd:∃ cur,nA w g1 cur E/\l.length<=cur.size:=by
   obtain⟨xs,bss,qi,_⟩:=r1.row
   rcases qi.2 with ⟨h,_⟩ | ⟨g3,cap,cur,h,h2,h3,h4,h5,h6,h7⟩
   ·cases h
   simp only[Value.slice.injEq,Option.some.injEq,Addr.mk.injEq,and_true,true_and] at h;obtain⟨rfl,rfl⟩:=h;exact⟨cur,h3,by omega⟩
  obtain⟨cur,hK,hcz⟩:=qd
  have qa:=run_copy_cells (P:=P) w t t' ty E g1 k (l.length - k) c' ad m.length uc ((m.take (l.length - k)).map (Value.int .i64)) ht hs (by rw[Bu,qc])
   (λj q hq=>by
    rw[Ay] at hq;obtain⟨z,hz,rfl⟩:=En.1 hq;rw[Be] at hz
    split at hz
    ·exact qh j _ (hm j z hz).1
    ·cases hz)
   (λj hj=>by rw[Bu,qc] at hj;rw[hK.cell,Cw (by omega)];rfl)
   (λj hj=>hK.frozen _)
   (λq hq=>by obtain⟨z,_,rfl⟩:=Cv.1 hq;rfl)
  rw[Bu,qc] at qa;refine zT F hc (qf qa) (λa' F'=>?_)
  have el:ll=l.take k++m.take (l.length - k)++l.drop (k+(m.take (l.length - k)).length):=by
   rw[qe,qc]
   congr 1
   by_cases qj:m.length<=l.length - k
   ·rw[Eu qj]
   ·rw[Cp (by omega),Cp (by omega)]
  subst el;exact kk a' _ (tr (Z:=[g1]) r2 o1 (B:=rl 1 xF E (.slice (some ⟨g1,0,none⟩) l.length c) _) (Y1:=Y) ⟨[g1],[],r1',Own.nil _ _,r2,λ_ h=>nomatch h⟩ n0 (λc hc=>⟨.inl hc,At (hY c hc).1 o1.size⟩)) F'
theorem xUp {t t':Ty} {i j:Int} (F:Sk a n L) (hc:vO ops n L g d=true) (e:ev L x=some (.int .u64 i)) (e':ev L y=some (.int .u64 j)) (k:∀ a',Sk a' n ((d,.bool (decide (j<i)))::L)->wpList P ops Q rest a' w) : wpList P ops Q (⟨some d,.binOp .gtr t x y t',ty,pos,af,g⟩::rest) a w:=zT F hc (by unfold execOp;simp only[F.ev e,F.ev e'];rfl) k
theorem oBl {t e:Ty} {dd:Option Tmp} {b N1 c k:Nat} {w':Wd} (ht:P.underlying t=some (.slice e)) (hz:∀ w,(sizeOf e).run P w= .ok 1 w) (F:Sk a n L) (he:ev L x=some (.slice (some ⟨b,0,none⟩) N1 c)) (hy:ev L y=some (.int .i64 (k:Int))) (hk:k<N1) (hc:N1<=c) :
 (execOp a.eval ⟨dd,.slice t x (some y) none none,ty,pos,af,g⟩).run P w'= .ok (.value (.slice (some ⟨b,k,none⟩) (N1 - k) (c - k))) w':=by
 have hE:P.elem t=e:=by simp [Program.elem,ht]
 have qa:P.underlying t=some (.slice (P.elem t)):=by rw[hE];exact ht
 have h1:(Instr.sliceAt t (.slice (some ⟨b,0,none⟩) N1 c) (some (.int .i64 (k:Int))) none none).run P w'= .ok (.slice (some ⟨b,k,none⟩) (N1 - k) (c - k)) w':=by
  rw[run_sliceAt_slice w' _ _ _ _ _ qa,run_slice_l w' t _ _ _ qa .i64 _ (by omega) (by omega),hE,hz]
  simp [Result.andThen,sliced,Addr.add,show ¬ c=k by omega]
  try exact λh=>h.symm
 unfold execOp
 simp only[F.ev he,Option.map_none,Cr,F.ev hy]
 simp [h1]
theorem xYv {t e:Ty} {dd:Option Tmp} {b N1 c k:Nat} {w':Wd} (ht:P.underlying t=some (.slice e)) (hz:∀ w,(sizeOf e).run P w= .ok 1 w) (F:Sk a n L) (he:ev L x=some (.slice (some ⟨b,0,none⟩) N1 c)) (hy:ev L y=some (.int .i64 (k:Int))) (hk:k<=N1) (hc:N1<=c) :
 (execOp a.eval ⟨dd,.slice t x none (some y) none,ty,pos,af,g⟩).run P w'= .ok (.value (.slice (some ⟨b,0,none⟩) k c)) w':=by
 have hE:P.elem t=e:=by simp [Program.elem,ht]
 have qa:P.underlying t=some (.slice (P.elem t)):=by rw[hE];exact ht
 have h1:(Instr.sliceAt t (.slice (some ⟨b,0,none⟩) N1 c) none (some (.int .i64 (k:Int))) none).run P w'= .ok (.slice (some ⟨b,0,none⟩) k c) w':=by
  rw[run_sliceAt_slice w' _ _ _ _ _ qa,run_slice_h w' t _ _ _ qa .i64 _ (by omega) (by omega),hE,hz]
  simp [Result.andThen,sliced,Addr.add]
 unfold execOp
 simp only[F.ev he,Option.map_none,Cr,F.ev hy]
 simp [h1]
theorem Sep.shape {E:Ty} {v:Vl} {l:List Int} (H:Sep X N w0 w (rl 1 xF E v l::D)) (h:0<l.length):∃ b c,v= .slice (some ⟨b,0,none⟩) l.length c/\l.length<=c:=by
 obtain⟨Y,⟨rb,ib,r1,_⟩,_⟩:=H.hd;obtain⟨xs,bss,ho,_⟩:=r1.row
 rcases ho.2 with ⟨_,h0⟩ | ⟨b,cap,cur,rfl,h2,h3,h4,h5⟩
 ·omega
 ·exact⟨b,cap,rfl,h4⟩
theorem Sep.tailv {E:Ty} {v:Vl} {l:List Int} (H:Sep X N w0 w (rl 1 xF E v l::D)):oJq v l.length 0 v:=by
 obtain⟨Y,⟨rb,ib,r1,_⟩,_⟩:=H.hd;obtain⟨xs,bss,ho,_⟩:=r1.row
 rcases ho.2 with ⟨rfl,h0⟩ | ⟨b,cap,cur,rfl,h2,h3,h4,h5⟩
 ·exact⟨none,0,by rw[h0],λh=>absurd h (by omega)⟩
 ·exact⟨_,cap,rfl,λ_=>⟨b,cap,rfl,rfl⟩⟩
theorem Sep.srcTake {E:Ty} {b c k:Nat} {l:List Int} (H:Sep X N w0 w (rl 1 xF E (.slice (some ⟨b,0,none⟩) l.length c) l::D)) (hk:k<=l.length):Src 1 xF w (.slice (some ⟨b,0,none⟩) k c) (l.take k) []:=by
 obtain⟨Y,⟨rb,ib,r1,_⟩,_⟩:=H.hd;obtain rfl:=xBo r1
 rcases r1.src.2 with ⟨h,_⟩ | ⟨ad,uc,ys,css,h,hyl,qd,hcs,qc,hr⟩
 ·cases h
 injection h with h1 h2 h3
 obtain rfl:=Option.some.inj h1;subst h3
 have qa:(l.take k).length=k:=by rw[Bc];omega
 refine⟨zW.nil w,.inr ⟨_,c,ys.take k,css.take k,by rw[qa],by rw[Bc,qa];omega,λj q hq=>?_,by rw[Bc,qa];omega,?_,λi x bi hx hb=>?_⟩⟩
 ·rw[Be] at hq
  split at hq
  ·exact qd j q hq
  ·cases hq
 ·rw[Du] at qc ⊢
  exact λy hy=>qc y (Dt hy)
 ·rw[Be] at hx hb
  split at hx
  ·rename_i hik
   rw[if_pos hik] at hb;have:=hr i x bi hx hb;refine xF.fr _ _ _ _ _ _ this (λ_ _=>rfl) (λj hj=>?_)
   obtain rfl:j=0:=by omega
   show(ys.take k)[i*1+0]?=ys[i*1+0]?
   rw[Be,if_pos (by omega)]
  ·cases hx
end
theorem xTl (n:Nat) (hn:n<=1000) (w:Wd):Calls Tryz.prog 208 #[.int .u64 1,.int .u64 (n:Int)] w (Gv (λv w'=>v= .tuple #[.int .u64 0,.int .u64 (n:Int)]/\w'=w)):=by
 have h:=Go.Proofs.Any.bits_Mul layM 1 n (by decide) (by omega) w;refine Calls.mono h ?_
 rintro e w' ⟨rfl,rfl⟩
 refine⟨_,rfl,?_,rfl⟩;rw[show 1*n / 18446744073709551616=0 by omega,show 1*n % 18446744073709551616=n by omega]
 rfl
def qH (x0:List Int) (x1:Int):Option (List Int):=if x0.length=1/\0<=x1/\x1<=1000 then some (List.replicate x1.toNat (x0.getD 0 0)) else none
theorem xXd {y:Int} {n k:Nat} (hk:k<=n):List.replicate (k+min k (n - k)) y++List.replicate (n - (k+min k (n - k))) (0:Int)=(List.replicate k y++List.replicate (n - k) (0:Int)).take k++((List.replicate k y++List.replicate (n - k) (0:Int)).take k).take ((List.replicate k y++List.replicate (n - k) (0:Int)).length - k)++(List.replicate k y++List.replicate (n - k) (0:Int)).drop (k+((List.replicate k y++List.replicate (n - k) (0:Int)).take k).length):=by
 have e1:(List.replicate k y++List.replicate (n - k) (0:Int)).take k=List.replicate k y:=by rw[Cu (by simp),Ck (by simp)]
 rw[e1];simp only[Aq,Bv];rw[show k+(n - k) - k=n - k by omega,List.take_replicate,List.drop_append,Bv,show k+k - k=k by omega,List.drop_replicate,List.drop_replicate,List.replicate_append_replicate,show k - (k+k)=0 by omega,List.replicate_zero,Bp,Nat.min_comm (n - k) k,show n - (k+min k (n - k))=n - k - k by omega]
set_option maxHeartbeats 1000000 in
theorem rW {B:Nat->Prop} {x0:List Int} {x1:Int} (r:List Int) (hR:qH x0 x1=some r) {v0:Vl} (w0:Wd) (hN:∀ c,B c->c<w0.heap.size) (A0:Bo B w0 (Sl 1 xF) v0 x0) (qf:xL x1) :
 Calls Tryz.prog 141 #[v0,.int .i64 x1] w0 (Gv (λv w'=>∃ (v1':Vl),v=v1'/\Sep [] B w0 w' [rl 1 xF 2 v1' r])):=by
 unfold qH at hR
 split at hR
 rotate_left
 ·cases hR
 rename_i hq;obtain⟨q1,q2,q3⟩:=hq
 obtain⟨y,rfl⟩:∃ y,x0=[y]:=by
  match x0,q1 with
  | [y],_=>exact⟨y,rfl⟩
 obtain⟨n,rfl⟩:∃ n:Nat,x1=n:=⟨x1.toNat,by omega⟩;obtain rfl:=Option.some.inj hR;simp only[Ad,Dd];refine xPo (L:=[(0,v0),(1,.int .i64 (n:Int))]) Tryz.func141 rfl rfl rfl (sc rfl (sc rfl sn)) (λa F=>?_);have H:=Sep.start hN;refine kR (bX (uJ F rfl rfl λa F=>dU (aQ ?_)));refine kR (kR (bX (pS F rfl rfl λa F=>oFt F rfl rfl rfl λa F=>dU (aQ (xUb F rfl (show decide ((n:Int)<0)=false by simp) (iR (aQ ?_)))))));refine kR (bX (pS F rfl rfl λa F=>?_));refine oL Tryz.underlying58 F rfl rfl A0 λa i1 F=>?_;refine oU1 (z:=1) Tryz.underlying3 Tryz.underlying256 F rfl rfl i1 rfl λa F=>?_;refine pS F rfl rfl λa F=>?_;refine oU1 (z:=(n:Int)) Tryz.underlying3 Tryz.underlying256 F rfl rfl qf (by unfold nn;rw[if_pos q2]) λa F=>?_;refine oG F rfl Tryz.call208 rfl (xTl n (by omega) _) (λa vv w ⟨hv,hw⟩ F=>?_);subst hv;replace hw:=hw.symm;subst hw;refine pS F rfl rfl λa F=>?_;refine xNq F rfl rfl rfl λa F=>?_;refine xNq F rfl rfl rfl λa F=>?_;refine uJ F rfl rfl λa F=>uJ F rfl rfl λa F=>dU (aQ ?_);refine kR (kR (bX (pS F rfl rfl λa F=>?_)));refine xUp F rfl rfl rfl λa F=>?_;refine pS F rfl rfl λa F=>?_;have F:=F.eq (t:=23) rfl (show Value.bool (decide ((0:Int)<0))=Value.bool false from rfl);refine pS F rfl rfl λa F=>?_;refine xUp F rfl rfl rfl λa F=>?_;refine oDc F rfl rfl rfl λa F=>dU (aQ (xUb F rfl (show decide ((9223372036854775807:Int)<(n:Int))=false by simp;omega) (iR (aQ ?_))));refine kR (bX (pS F rfl rfl λa F=>?_));refine oU3 Tryz.underlying256 Tryz.underlying3 F rfl rfl qf λa F=>?_
 have qg:pN (0:Int) (n:Int)=some (List.replicate n 0):=by
  unfold pN
  rw[if_pos ⟨q2,by omega⟩,Ad]
 refine oRM (sz:=1) (R:=xF) (z:=.int .i64 0) (bytes:=8) Tryz.underlying58 (by kernel_rfl) rfl (by decide) (by decide) (λw=>⟨rfl,by decide,rfl⟩) F rfl rfl rfl qg H λa w v H F=>?_;refine uJ F rfl rfl λa F=>dU (aQ ?_);refine kR (bX (pS F rfl rfl λa F=>pS F rfl rfl λa F=>?_));obtain⟨bs,qh,_⟩:=H.a A0;obtain⟨ib,qd,_⟩:=qh.src (by decide)
 refine oKb (k:=0) (ll:=List.replicate (min 1 n) y++List.replicate (n - min 1 n) 0) Tryz.underlying58 (by kernel_rfl) F rfl rfl rfl H H.tailv (Dc _) qd (by
  cases n with
  | zero=>rfl
  | succ n=>simp [De]) λa w H F=>?_
 refine uJ F rfl rfl λa F=>dU (aQ ?_);simp only[Bv,Ey,Am,Bi,Bj] at F;refine kR (rZ ?_);refine xPv (λg a w=>∃ k:Nat,k+g=n/\(0<n->0<k)/\Sk a 48 [(8,.int .i64 (k:Int)),(7,v)]/\Sep [] B w0 w [rl 1 xF 2 v (List.replicate k y++List.replicate (n - k) 0)]) (n - min 1 n) ?_ ?_
 ·exact⟨min 1 n,by omega,by omega,F.sub (sc rfl (sc rfl sn)),H⟩
 intro g a w ⟨k,hkg,hk0,F,H⟩
 have qa:(List.replicate k y++List.replicate (n - k) (0:Int)).length=n:=by simp;omega
 refine kR (kR (bX (pS F rfl rfl λa F=>pS F rfl rfl λa F=>?_)));refine oL Tryz.underlying58 F rfl rfl (H.l 0 rfl) λa i2 F=>?_;refine oFt F rfl rfl rfl λa F=>dU (aQ ?_);rw[qa] at F
 by_cases qc:k<n
 ·refine oFk F rfl (show decide ((k:Int)<(n:Int))=true by simpa using qc) (iR (aQ (rZ ?_)))
  obtain⟨b,c,hv,hc⟩:=H.shape (by omega);rw[qa] at hv hc;subst hv;refine xD H (by kernel_rfl) (λw H=>?_);refine xTt 0 rfl (by kernel_rfl) (by kernel_rfl) (by kernel_rfl) ?_;refine gT F rfl (λw l=>yU F rfl) (λa F=>?_);refine xTt 1 rfl (by kernel_rfl) (by kernel_rfl) (by kernel_rfl) ?_;refine gT F rfl (λw l=>yU F rfl) (λa F=>?_);refine xTt 2 rfl (by kernel_rfl) (by kernel_rfl) (by kernel_rfl) ?_;refine gT F rfl (λw l=>yU F rfl) (λa F=>?_);refine b_q 3 (by kernel_rfl) rfl (by kernel_rfl) (by kernel_rfl) (by kernel_rfl) (by kernel_rfl) ?_;refine gT F rfl (λw l=>oBl Tryz.underlying58 Tryz.sizeOf2 F rfl rfl qc hc) (λa F=>?_);refine xTt 4 rfl (by kernel_rfl) (by kernel_rfl) (by kernel_rfl) ?_;refine gT F rfl (λw l=>yU F rfl) (λa F=>?_);refine xTt 5 rfl (by kernel_rfl) (by kernel_rfl) (by kernel_rfl) ?_;refine gT F rfl (λw l=>yU F rfl) (λa F=>?_);refine b_q 6 (by kernel_rfl) rfl (by kernel_rfl) (by kernel_rfl) (by kernel_rfl) (by kernel_rfl) ?_;refine gT F rfl (λw l=>xYv Tryz.underlying58 Tryz.sizeOf2 F rfl rfl (Ah qc) hc) (λa F=>?_);refine xE H 7 rfl (by kernel_rfl) ?_
  have H:Sep [] B w0 w [rl 1 xF 2 (.slice (some ⟨b,0,none⟩) (List.replicate k y++List.replicate (n - k) (0:Int)).length c) (List.replicate k y++List.replicate (n - k) 0)]:=by rw[qa];exact H
  have hs:=H.srcTake (b:=b) (c:=c) (k:=k) (by rw[qa];omega)
  have qe:min ((List.replicate k y++List.replicate (n - k) (0:Int)).take k).length ((List.replicate k y++List.replicate (n - k) (0:Int)).length - k)=min k (n - k):=by rw[Bc,qa];omega
  rw[qa] at H;refine oKb (k:=k) Tryz.underlying58 (by kernel_rfl) F rfl rfl rfl H ⟨_,c - k,by rw[qa],λ_=>⟨b,c,by rw[qa],rfl⟩⟩ (by rw[qa];omega) hs (xXd (Ah qc)) λa w H F=>?_;rw[qe] at F;refine dU (aQ ⟨⟨_,H⟩,?_⟩);refine xE H 8 rfl (by kernel_rfl) ?_;refine xZy F rfl rfl rfl (z:=((k+min k (n - k):Nat):Int)) (by rw[Int.natCast_add];exact if_pos ⟨by omega,by omega⟩) λa F=>?_;refine dU (aQ ⟨⟨_,H⟩,?_⟩);refine xE H 9 rfl (by kernel_rfl) ?_;refine uJ F rfl rfl λa F=>dU (aQ ⟨⟨_,H⟩,?_⟩);refine oFj (by kernel_rfl) ?_;refine xMk ?_;exact⟨n - (k+min k (n - k)),by omega,k+min k (n - k),by omega,by omega,F.sub (sc rfl (sc rfl sn)),H⟩
 ·refine xUb F rfl (show decide ((k:Int)<(n:Int))=false by simpa using qc) (xDl (xMi (xMi (xTy (aQ ?_)))))
  obtain rfl:k=n:=by omega
  refine kR (bX (pS F rfl rfl λa F=>uJ F rfl rfl λa F=>dU (aQ ?_)));refine wA ?_;refine xPd F rfl (oKt F rfl) ?_;rw[Ed,List.replicate_zero,Cd] at H;exact⟨_,rfl,_,rfl,H⟩
end
section
open Go.RowKit
theorem aV {B:Nat->Prop} {x0:List Int} {x1:Int} (r:List Int) (hR:qH x0 x1=some r) {v0:Vl} (w0:Wd) (hN:∀ c,B c->c<w0.heap.size) (A0:Bo B w0 (Sl 1 xF) v0 x0) (qa:xL x1) : Calls Tryz.prog 141 #[v0,.int .i64 x1] w0 (Gt B w0 [] (.v λv1'=>.st v1' λD=>rl 1 xF 2 v1' r::D)):= (rW r hR w0 hN A0 qa).mono λe w' ⟨v,h1,v1,h2,h3⟩=>⟨v1,h1.trans (congrArg _ h2),h3,λ_=>rfl⟩
end
section
open Go.RowKit
theorem iV {B:Nat->Prop} {v0:Vl} (h0:v0.oneCell'=true) (w0:Wd) (hN:∀ c,B c->c<w0.heap.size):Calls Tryz.prog 143 #[v0] w0 (Gt B w0 [] (.st (.agg #[.int .i64 0,v0,.slice none 0 0,.slice none 0 0,.slice none 0 0]) λD=>D)):=by
 refine xPo (L:=[(0,v0)]) Tryz.func143 rfl rfl rfl (sc rfl sn) (λa F=>?_);have H:=Sep.start hN;refine kR ?_;refine bX ?_;refine oA Tryz.zeroValue62 F rfl rfl H (λa w b11 H F=>?_);refine dU ?_;refine aQ ?_;refine kR ?_;refine bX ?_;refine pS F rfl rfl (λa F=>?_);refine xUd Tryz.underlying62 Tryz.zeroValue62 (λw=>by simp [Tryz.sizeOf2,Tryz.sizeOf58,Tryz.sizeOf59,Tryz.sizeOf60];rfl) F rfl rfl rfl rfl rfl (oc rfl (oc h0 on)) rfl rfl (λa F=>?_);refine oWA (vs:=[.int .i64 0,v0,(.slice none 0 0),(.slice none 0 0),(.slice none 0 0)]) Tryz.sizeOf62 F rfl rfl rfl H (oc rfl (oc h0 (oc rfl (oc rfl (oc rfl on))))) rfl rfl (λw H=>?_);refine dU ?_;refine aQ ?_;refine wA ?_;refine xPd F rfl (oFs (arr:=#[.int .i64 0,v0,(.slice none 0 0),(.slice none 0 0),(.slice none 0 0)]) F Tryz.isAgg62 Tryz.sizeOf62 rfl (H.b 0 rfl)) ?_;exact⟨rfl,(H.s [] rfl rfl),λ_=>rfl⟩
end
section
open Go.RowKit
variable {fi:FuncId}
section
variable {P:Program} {ops:Array Oper} {Q:Exit->Act->Wd->Prop} {n:Nat} {X:List Nat} {N:Nat->Prop} {w0 w1:Wd} {L:List (Nat×Vl)} {D:List As} {ρ:Type} {tt:Option ρ} {CC:ρ->Prop} {G:Act->Wd->Prop} {rest:List Oper} {d:Nat} {ty:Ty} {pos:String} {af:Array Edge} {g:Option (Nat×Bool)}
theorem jspl {α:Type} {sz:Nat} {R:ER α} [hR:FrC sz R] {E:Ty} {v:Vl} {l:List α} {M:Nat->Prop} (kt:∀ w1 X1 N1,Sm N w0 w1->Lf N w0 N1 w1->((∀ {w':Wd} {K:List As},Sep X1 N1 w1 w' K->(∀ B∈K,∀ c,B.N c->N c)->Sep X N w0 w' K)/\(N=N)/\(∀ c,N c->N1 c))->(∀ {f:(Nat->Prop)->As},Ab f->∀ {w':Wd} {K:List As},Sep X1 N1 w1 w' (f N1::K)->(∀ B∈K,∀ c,B.N c->N c)->Sep X N w0 w' (f N::K))->J n X1 N1 w1 L (rz N1 sz R E v l::D) tt CC G):J n X N w0 L (rw M sz R E v l::D) tt CC G:=⟨λa w F H xq h1 h2=>
 let ⟨X1,N1,e,H1,th,ab⟩:=H.spl
 (kt w X1 N1 H.sm e th ab).h a w F H1 xq h1 h2⟩
theorem jkoV (m:Nat) {c:Operand} {lb:List Vl} {xs:List Operand} {at':Array Ty} {vs:List Vl} {Kd E:List As} {I:Tl Vl (List As->List As)} (hf:∀ args w,(callFunc fi args).run P w= .ok (.enter fi args) w) (hh:ev L c=some (.func (.func fi) #[] lb.toArray)/\evs L xs=some vs) [hm:Spl m D Kd E] (cl:∀ {w X1},Sep X1 N w w Kd->Sep X N w0 w D->Calls P fi (vs++lb).toArray w (Gt N w X1 I)) (kt:I.all λv h=>J n X N w0 ((d,v)::L) (h E) tt CC (wpList P ops Q rest)) (hc:vO ops n L g d=true:=by rfl) : J n X N w0 L D tt CC (wpList P ops Q (⟨some d,.call ⟨.value c,xs.toArray,at'⟩,ty,pos,af,g⟩::rest)):=⟨λa w F H xq h1 h2=>by
 obtain⟨X1,S1,bk⟩:=Sep.lend (K:=Kd) (L:=E) (hm.h ▸ H)
 exact oGV F hc hh.1 hf hh.2 ((cl S1 H).mono (λe w' h=>h.gv)) (λa' v w' hv F'=>hv.go kt (λu f hu hj=>by
  obtain⟨rfl,S,qa⟩:=hu
  exact hj.h a' w' F' (by rw[qa E];exact bk S) xq h1 h2))⟩
theorem gz1 {b:Bool} {vs:Array Vl} {w:Wd} {M:Nat->Prop} {i1 i2:Tl Vl (List As->List As)} (hb:b=true) (h:Calls P fi vs w (Gt M w X (bif b then i1 else i2))):Calls P fi vs w (Gt M w X i1):=by subst hb;exact h
theorem gz2 {b:Bool} {vs:Array Vl} {w:Wd} {M:Nat->Prop} {i1 i2:Tl Vl (List As->List As)} (hb:b=false) (h:Calls P fi vs w (Gt M w X (bif b then i1 else i2))):Calls P fi vs w (Gt M w X i2):=by subst hb;exact h
end
end
end Go.Proofs.YtnjlbbfcngjhmaaGreat
