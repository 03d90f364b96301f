import Derived.Test.YtlommebgedmjdaaGreatDoorV
namespace Go.Proofs.YtlommebgedmjdaaGreatDoor
set_option linter.unusedVariables false
set_option linter.unusedSimpArgs false
open Go.RowKit
def sW (v:Value):List Nat:=match v.ownBlock with | some b=>[b] | none=>[]
structure Row {α:Type} (sz:Nat) (R:ER α) (E:TypeId) (B:Nat) (w:World) (v:Value) (l:List α) (rb ib:List Nat):Prop where
  row:∃ (xs:List Value) (bss:List (List Nat)),w.ownsRow B E sz v l.length xs∧bss.length=l.length∧bss.flatten=ib∧∀ i x bi,l[i]?=some x→bss[i]?=some bi→R w (fun j=>xs[i*sz+j]?) x bi
  hrb:rb=sW v
  mem:qM ib w
  dj:Dj rb ib
section
variable {α:Type} {sz:Nat} {R:ER α} {E:TypeId} {B:Nat} {w:World} {v:Value} {l:List α} {rb ib:List Nat}
theorem Row.blk (h:Row sz R E B w v l rb ib):∀ b∈rb,B≤b∧∃ cur,w.heap[b]?=some (.cells cur E (0,0)):=by
  obtain⟨xs,bss,ho,_⟩:=h.row;intro b hb;rw[h.hrb] at hb
  rcases ho.2 with ⟨rfl,_⟩ | ⟨g,cap,cur,rfl,hbg,hg,_⟩
  · simp [sW,Value.ownBlock] at hb
  · simp [sW,Value.ownBlock] at hb
    subst hb;exact⟨hbg,cur,hg⟩
theorem Row.ownR (h:Row sz R E B w v l rb ib):Own B rb w:=by
  refine⟨?_,fun b hb=>let ⟨h1,cur,h2⟩:=h.blk b hb;⟨h1,cur,E,h2⟩⟩;rw[h.hrb]
  unfold sW
  cases v.ownBlock<;>simp
theorem Row.memR (h:Row sz R E B w v l rb ib):qM rb w:=h.ownR.inMem
theorem Row.rd [hR:FrC sz R] (h:Row sz R E B w v l rb ib):Rd (Sl sz R) w v l (rb++ib):=by
  obtain⟨xs,bss,ho,hl,rfl,he⟩:=h.row;have hrb:=h.hrb
  rcases ho.2 with ⟨rfl,hn⟩ | ⟨g,cap,cur,rfl,h2,h3,h4,h5,h6,h7⟩
  · obtain rfl:=List.length_eq_zero_iff.1 hn
    obtain rfl:=List.length_eq_zero_iff.1 hl
    simp [sW,Value.ownBlock] at hrb
    subst hrb;exact Rd.nil sz R w
  · simp [sW,Value.ownBlock] at hrb
    subst hrb;refine⟨⟨_,cap,rfl,h4,h5,(fun h=>nomatch h),.inr ⟨g,0,bss,rfl,rfl,hl,fun i x bi hx hi=>?_⟩⟩,(qM.append h.memR h.mem)⟩;refine hR.fr _ _ _ _ x bi (he i x bi hx hi) (fun _ _=>rfl) (fun j hj=>?_);have hil:i<l.length:=(List.getElem?_eq_some_iff.1 hx).1;have hm:(i+1)*sz≤l.length*sz:=Nat.mul_le_mul_right _ hil;rw[Nat.add_mul] at hm;rw[Nat.zero_add,(Own.cell0 h3 _).1,← h7,List.getElem?_take,if_pos (by omega)]
    simp
theorem Row.keep [hR:FrC sz R] {w':World} (h:Row sz R E B w v l rb ib) (h1:cR rb w w') (h2:cR ib w w') (hs:w.heap.size≤w'.heap.size):Row sz R E B w' v l rb ib:=by
  obtain⟨xs,bss,ho,hl,rfl,he⟩:=h.row;have hrb:=h.hrb;refine⟨⟨xs,bss,⟨ho.1,?_⟩,hl,rfl,fun i x bi hx hi=>hR.fr _ _ _ _ x bi (he i x bi hx hi) (fun c hc=>h2 c (List.mem_flatten.2 ⟨bi,List.mem_of_getElem? hi,hc⟩)) (fun _ _=>rfl)⟩,hrb,h.mem.le hs,h.dj⟩
  rcases ho.2 with h3 | ⟨g,cap,cur,rfl,h3,h4,h5⟩
  · exact .inl h3
  · exact .inr ⟨g,cap,cur,rfl,h3,by rw[h1 g (by rw[hrb];simp [sW,Value.ownBlock])];exact h4,h5⟩
theorem Row.len (h:Row sz R E B w v l rb ib):xH (l.length:Int):=by
  obtain⟨xs,bss,ho,_⟩:=h.row
  rcases ho.2 with ⟨_,hn⟩ | ⟨g,cap,cur,_,_,_,h4,h5,_⟩
  · rw[hn];decide
  · unfold maxLen at h5;exact⟨by omega,by omega⟩
theorem Row.nil (sz:Nat) (R:ER α) (E:TypeId) (B:Nat) (w:World):Row sz R E B w (.slice none 0 0) [] [] []:=
  ⟨⟨[],[],World.ownsRow_nil _ _ _ _,rfl,rfl,fun i x bi hx=>nomatch hx⟩,rfl,qM.nil w,Dj.nil _⟩
theorem Row.own (h:Row sz R E B w v l rb ib) (o:Own B ib w):Own B (rb++ib) w:=h.ownR.append o h.dj
theorem Row.base {B':Nat} (h:Row sz R E B w v l rb ib) (hB:B'≤B):Row sz R E B' w v l rb ib:=by
  obtain⟨xs,bss,ho,r⟩:=h.row;refine⟨⟨xs,bss,⟨ho.1,?_⟩,r⟩,h.hrb,h.mem,h.dj⟩
  rcases ho.2 with h1 | ⟨g,cap,cur,h1,h2,h3⟩
  · exact .inl h1
  · exact .inr ⟨g,cap,cur,h1,Nat.le_trans hB h2,h3⟩
end
theorem Own.go {B:Nat} {bs:List Nat} {w w':World} (h:Own B bs w) (l:Below w.heap.size w w'):Own B bs w':=h.sameBelow l
theorem Own.goO {B:Nat} {bs cs:List Nat} {w w':World} (h:Own B bs w) (l:Only cs w w') (hd:Dj bs cs):Own B bs w':=h.same fun b hb=>l.block b (h.inMem b hb) (hd b hb)
structure El {α:Type} (sz:Nat) (R:ER α) (w:World) (v:Value) (x:α) (bs:List Nat):Prop where
  n:v.cells.size=sz
  r:R w (fun j=>v.cells[j]?) x bs
  o:∀ u∈v.cells.toList,u.oneCell'=true
  m:qM bs w
theorem El.int {w:World} {x:Int} (h:xH x):El 1 xG w (.int .i64 x) x []:=⟨rfl,⟨rfl,h,rfl⟩,by simp [Value.cells,Value.oneCell'],qM.nil w⟩
theorem El.str {w:World} {x:ByteArray} (h:x.size≤maxLen):El 1 rV w (.string x) x []:=⟨rfl,⟨rfl,h,rfl⟩,by simp [Value.cells,Value.oneCell'],qM.nil w⟩
theorem El.sl {α:Type} {sz:Nat} {R:ER α} {w:World} {v:Value} {l:List α} {bs:List Nat} (h:Rd (Sl sz R) w v l bs):El 1 (fG sz R) w v l bs:=by
  obtain⟨a,c,rfl⟩:=h.r.val;exact⟨rfl,⟨_,rfl,h.r⟩,by simp [Value.cells,Value.oneCell'],h.m⟩
theorem El.agg {α:Type} {sz:Nat} {R:ER α} [hR:FrC sz R] {w:World} {v:Value} {x:α} {bs:List Nat} (h:Rd (qG sz R) w v x bs):El sz R w v x bs:=by
  obtain⟨⟨cs,hl,rfl,hr⟩,hm⟩:=h;refine⟨by simpa [Value.cells] using hl,by simpa [Value.cells] using hr,fun u hu=>?_,hm⟩;simp only[Value.cells,List.toArray] at hu;obtain⟨j,hj,rfl⟩:=List.getElem_of_mem hu;obtain⟨u,h1,h2⟩:=hR.tot _ _ _ _ hr j (by rw[← hl];exact hj);rw[List.getElem?_eq_getElem hj] at h1
  cases h1
  exact h2
theorem xIf:∀ (l:List Value) (o:Nat) (cs:Array Value),o+l.length≤cs.size→∀ i,((l.zipIdx o).foldl (fun cs x=>cs.setIfInBounds x.2 x.1) cs)[i]?=if o≤i∧i<o+l.length then l[i - o]? else cs[i]?
  | [],o,cs,_,i=>by
    rw[if_neg (by simp only[List.length_nil];omega)]
    rfl
  | x::r,o,cs,ho,i=>by
    rw[List.zipIdx_cons,List.foldl_cons,xIf r (o+1) _ (by simp at ho ⊢;omega) i];simp only[List.length_cons] at ho ⊢
    by_cases h1:o+1≤i∧i<o+1+r.length
    · rw[if_pos h1,if_pos (by omega),show i - o=(i - (o+1))+1 by omega,List.getElem?_cons_succ]
    · rw[if_neg h1]
      by_cases h2:i=o
      · subst h2
        rw[if_pos (by omega),Nat.sub_self,List.getElem?_cons_zero,Array.getElem?_setIfInBounds,if_pos rfl,if_pos (by omega)]
      · rw[if_neg (by omega),Array.getElem?_setIfInBounds,if_neg (by omega)]
theorem xRv {sz:Nat} (cs:Array Value) (v:Value) (hv:v.cells.size=sz) (hc:cs.size=1*sz):Instr.fill (fun i=>some (i*sz,sz)) cs [(0,v)]=some v.cells:=by
  have e:v.cells.zipIdx.foldl (fun cs (x:Value×Nat)=>cs.setIfInBounds (0*sz+x.2) x.1) cs=v.cells:=by
    apply Array.ext_getElem?
    intro i;rw[← Array.foldl_toList,Array.toList_zipIdx];simp only[Nat.zero_mul,Nat.zero_add];rw[xIf _ 0 cs (by simp;omega) i]
    by_cases h:i<v.cells.size
    · rw[if_pos (by simp;exact h),Nat.sub_zero,Array.getElem?_toList]
    · rw[if_neg (by simp;omega),Array.getElem?_eq_none (by omega),Array.getElem?_eq_none (by omega)]
  unfold Instr.fill
  simp only
  have h1:((v.cells.size≠sz) || 0*sz+v.cells.size > cs.size:Bool)=false:=by simp [hv,hc]
  rw[if_neg (by simpa using h1)]
  unfold Instr.fill
  exact congrArg some e
section
variable {α:Type} {sz:Nat} {R:ER α} {P:Program} {ops:Array Oper} {Q:Exit→Act→World→Prop} {a:Act} {w:World} {n:Nat} {L:List (Nat×Value)} {rest:List Oper} {d:Nat} {ty:TypeId} {pos:String} {af:Array Edge} {g:Option (Nat×Bool)}
theorem xXz {t e:TypeId} (ht:P.underlying t=some (.slice e)) (hsz:∀ w,(sizeOf e).run P w= .ok sz w) (F:Sk a n L) (hc:qH ops n L g d=true)
    (k:∀ a' w' v rb,Row sz R e w.heap.size w' v [] rb []→Below w.heap.size w w'→Sk a' n ((d,v)::L)→wpList P ops Q rest a' w') :
    wpList P ops Q (⟨some d,.buildSlice t 0 #[],ty,pos,af,g⟩::rest) a w:=by
  refine qX (v:=.slice (some ⟨w.heap.size,0,none⟩) 0 0) (w':=w.alloc (.cells #[] e)) F hc ?_ (fun a' F'=>k a' _ _ [w.heap.size] ⟨⟨[],[],⟨by simp,.inr ⟨w.heap.size,0,#[],rfl,Nat.le_refl _,heap_alloc_new w _,Nat.le_refl _,by unfold maxLen;omega,by simp,by simp⟩⟩,rfl,rfl,fun i x bi hx=>nomatch hx⟩,rfl,qM.nil _,Dj.nil _⟩ ((Below.refl _ _).alloc (Nat.le_refl _) _) F')
  unfold execOp
  have h0:(Array.range 0).map (fun _:Nat=>(default:Value)) = #[]:=by apply Array.ext<;>simp
  simp [Instr.buildSlice,run_underlying ht,hsz,Instr.fill,newRow,h0]
theorem xNd [hR:FrC sz R] {t e:TypeId} {z:Value} {x:Operand} {v:Value} {y:α} {bs:List Nat} (ht:P.underlying t=some (.slice e)) (hsz:∀ w,(sizeOf e).run P w= .ok sz w) (hz:∀ w,(zeroValue e).run P w= .ok z w) (hzs:z.cells.size=sz) (hsz0:0<sz) (hsz1:sz≤1000) (F:Sk a n L) (hc:qH ops n L g d=true)
    (hx:ev L x=some v) (h:El sz R w v y bs)
    (k:∀ a' w' v' rb,Row sz R e w.heap.size w' v' [y] rb bs→Below w.heap.size w w'→Sk a' n ((d,v')::L)→wpList P ops Q rest a' w') :
    wpList P ops Q (⟨some d,.buildSlice t 1 #[(0,x)],ty,pos,af,g⟩::rest) a w:=by
  have hlb:Below w.heap.size w (w.alloc (.cells v.cells e)):=(Below.refl _ _).alloc (Nat.le_refl _) _;refine qX (v:=.slice (some ⟨w.heap.size,0,none⟩) 1 1) (w':=w.alloc (.cells v.cells e)) F hc ?_ (fun a' F'=>k a' _ _ [w.heap.size] ⟨⟨v.cells.toList,[bs],⟨by simp [h.n],.inr ⟨w.heap.size,1,v.cells,rfl,Nat.le_refl _,heap_alloc_new w _,Nat.le_refl _,by unfold maxLen;omega,by simp [h.n],by rw[List.take_of_length_le (by simp [h.n])]⟩⟩,rfl,by simp,fun i x' bi hx' hbi=>?_⟩,rfl,h.m.le hlb.size,fun b hb hm=>?_⟩ hlb F')
  · unfold execOp
    have hfill:=xRv (sz:=sz) ((Array.range (1*sz)).map (z.cells[· % z.cells.size]!)) v h.n (by simp);simp only[List.map_toArray,List.map_cons,List.map_nil,F.ev hx];simp only[Nat.one_mul] at hfill
    have hs0:sz≠0:=by omega
    have hs1:¬ (16777216<sz):=by omega
    simp [Instr.buildSlice,run_underlying ht,hsz,hz,hs0,hs1,hfill,newRow]
  · have hi0:i=0:=by
      have:=(List.getElem?_eq_some_iff.1 hx').1
      simp at this
      exact this
    subst hi0
    cases hx'
    cases hbi
    refine hR.fr _ _ _ _ _ _ h.r (h.m.same hlb) (fun j _=>?_)
    simp
  · rw[List.mem_singleton] at hb
    subst hb;exact absurd (h.m _ hm) (Nat.lt_irrefl _)
theorem Row.ones [hR:FrC sz R] {E:TypeId} {B:Nat} {w:World} {v:Value} {l:List α} {xs:List Value} {bss:List (List Nat)} (hsz:0<sz) (hx:xs.length=l.length*sz) (hl:bss.length=l.length) (he:∀ i x bi,l[i]?=some x→bss[i]?=some bi→R w (fun j=>xs[i*sz+j]?) x bi):∀ u∈xs,u.oneCell'=true:=by
  intro u hu;obtain⟨t,ht,rfl⟩:=List.getElem_of_mem hu
  have hi:t / sz<l.length:=by rw[Nat.div_lt_iff_lt_mul hsz];omega
  have hj:t % sz<sz:=Nat.mod_lt _ hsz;obtain⟨u,h1,h2⟩:=hR.tot _ _ _ _ (he (t / sz) _ _ (List.getElem?_eq_getElem hi) (List.getElem?_eq_getElem (by rw[hl];exact hi))) (t % sz) hj;rw[show t / sz*sz+t % sz=t by rw[Nat.mul_comm];exact Nat.div_add_mod t sz,List.getElem?_eq_getElem ht] at h1
  cases h1
  exact h2
def Src {α:Type} (sz:Nat) (R:ER α) (w:World) (u:Value) (m:List α) (ib:List Nat):Prop:=
  qM ib w∧((u= .slice none 0 0∧m=[]∧ib=[])∨∃ (ad:Addr) (c:Nat) (ys:List Value) (css:List (List Nat)),u= .slice (some ad) m.length c∧ys.length=m.length*sz∧(∀ j q,ys[j]?=some q→w.cell? (ad.add j)=some q)∧css.length=m.length∧css.flatten=ib∧∀ i x bi,m[i]?=some x→css[i]?=some bi→R w (fun j=>ys[i*sz+j]?) x bi)
theorem Row.src {E B:Nat} {w:World} {v:Value} {l:List α} {rb ib:List Nat} (h:Row sz R E B w v l rb ib):Src sz R w v l ib:=by
  obtain⟨ys,css,ho,hl,hfl,he⟩:=h.row;refine⟨h.mem,?_⟩
  rcases ho.2 with ⟨hu,hn⟩ | ⟨g2,cap2,cur2,hu,hrest⟩
  · refine .inl ⟨hu,List.length_eq_zero_iff.1 hn,?_⟩
    rw[← hfl,List.length_eq_zero_iff.1 (hl.trans hn)]
    rfl
  · exact .inr ⟨⟨g2,0,none⟩,cap2,ys,css,hu,ho.1,fun j q hq=>ho.cells (g:=g2) (by rw[hu];rfl) j q hq,hl,hfl,he⟩
theorem Rd.src [hR:FrC sz R] (hsz:0<sz) {w:World} {v:Value} {l:List α} {bs:List Nat} (h:Rd (Sl sz R) w v l bs):∃ ib,Src sz R w v l ib∧∀ c∈ib,c∈bs:=by
  obtain⟨⟨a,c,rfl,h1,h2,h3,h4⟩,hm⟩:=h
  rcases h4 with ⟨rfl,rfl⟩ | ⟨b,o,bss,rfl,rfl,he⟩
  · refine⟨[],⟨qM.nil w,?_⟩,fun c hc=>nomatch hc⟩
    cases a with
    | none=>exact .inl ⟨by rw[h3 rfl];rfl,rfl,rfl⟩
    | some ad=>exact .inr ⟨ad,c,[],[],rfl,by simp,by simp,rfl,rfl,by simp⟩
  · refine⟨bss.flatten,⟨fun c hc=>hm c (by simp [hc]),.inr ⟨⟨b,o,none⟩,c,(List.range (l.length*sz)).map (fun t=>(w.cell? ⟨b,o+t,none⟩).getD undef),bss,rfl,by simp,fun j q hq=>?_,he.1,rfl,fun i x bi hx hbi=>?_⟩⟩,fun c hc=>by simp [hc]⟩
    · rw[iF]
      have hj:j<l.length*sz:=by have:=(List.getElem?_eq_some_iff.1 hq).1;simpa using this
      rw[List.getElem?_map,List.getElem?_range hj,Option.map_some] at hq
      have hi:j / sz<l.length:=by rw[Nat.div_lt_iff_lt_mul hsz];omega
      obtain⟨u,hu,_⟩:=hR.tot _ _ _ _ (he.2 (j / sz) _ _ (List.getElem?_eq_getElem hi) (List.getElem?_eq_getElem (by rw[he.1];exact hi))) (j % sz) (Nat.mod_lt _ hsz)
      have e:o+j / sz*sz+j % sz=o+j:=by have:=Nat.div_add_mod j sz;rw[Nat.mul_comm] at this;omega
      rw[e] at hu;rw[hu] at hq ⊢;exact hq
    · refine hR.fr _ _ _ _ _ _ (he.2 i x bi hx hbi) (fun _ _=>rfl) (fun j hj=>?_)
      have hi:i<l.length:=(List.getElem?_eq_some_iff.1 hx).1
      have hlt:i*sz+j<l.length*sz:=by have:=Nat.mul_le_mul_right sz (show i+1≤l.length from hi);rw[Nat.add_mul] at this;omega
      rw[List.getElem?_map,List.getElem?_range hlt,Option.map_some];obtain⟨u,hu,_⟩:=hR.tot _ _ _ _ (he.2 i x bi hx hbi) j hj;rw[show o+(i*sz+j)=o+i*sz+j by omega,hu]
      rfl
theorem xEi [hR:FrC sz R] {x y:Operand} {t E:TypeId} {z:Value} {bytes B:Nat} {v u:Value} {l m r:List α} {rb ib ib2:List Nat} (ht:P.underlying t=some (.slice E)) (hinfo:(P.info? E).map (fun i=>(i.zero,i.size,i.bytes))=some (some z,sz,bytes)) (hzs:z.cells.size=sz) (hsz:0<sz) (hby:bytes≤1024) (hby0:0<bytes)
    (F:Sk a n L) (hc:qH ops n L g d=true) (hx:ev L x=some v) (hy:ev L y=some u) (A:Row sz R E B w v l rb ib) (S:Src sz R w u m ib2) (hB:B≤w.heap.size) (d1:Dj rb ib2) (hap:ap l m=some r)
    (k:∀ a' w' v' rb',Row sz R E B w' v' r rb' (ib++ib2)→Only rb w w'→(∀ X,qM X w→Dj X rb→Dj X rb')→Sk a' n ((d,v')::L)→wpList P ops Q rest a' w') :
    wpList P ops Q (⟨some d,.call ⟨.builtin .append,#[x,y],#[t,t]⟩,ty,pos,af,g⟩::rest) a w:=by
  obtain⟨hlen,rfl⟩:=xOt hap;obtain⟨i,hi,hzz⟩:=Option.map_eq_some_iff.1 hinfo;simp only[Prod.mk.injEq] at hzz;obtain⟨hz,hsize,hbyt⟩:=hzz;obtain⟨xs,bss,ho,hl,hfl,he⟩:=A.row;obtain⟨Sm,hS⟩:=S;have hrb:=A.hrb
  have fin:∀ {ys:List Value} {css:List (List Nat)},css.length=m.length→css.flatten=ib2→(∀ i x bi,m[i]?=some x→css[i]?=some bi→R w (fun j=>ys[i*sz+j]?) x bi)→∀ {v':Value} {w':World},(Builtin.append_ #[t,t] ty #[v,u]).run P w= .ok v' w'→w'.ownsRow B E sz v' (l.length+m.length) (xs++ys)→w.grownBy w' v.ownBlock→(v'.ownBlock=v.ownBlock∨v'.ownBlock=some w.heap.size)→wpList P ops Q (⟨some d,.call ⟨.builtin .append,#[x,y],#[t,t]⟩,ty,pos,af,g⟩::rest) a w:=by
    intro ys css hl2 hfl2 he2 v' w' hr h2 h3 h4
    have hO:Only rb w w':=by
      refine⟨h3.os,h3.tape,h3.output,h3.size,fun k hk hn=>h3.block k hk (fun e=>hn ?_)⟩;rw[hrb]
      unfold sW
      rw[← e]
      simp
    have hnew:∀ X,qM X w→Dj X rb→Dj X (sW v'):=by
      intro X hX hd b hb hm
      rcases h4 with h4 | h4
      · exact hd b hb (by rw[hrb];unfold sW at hm ⊢;rw[h4] at hm;exact hm)
      · unfold sW at hm
        rw[h4] at hm;rw[List.mem_singleton] at hm;subst hm;exact absurd (hX _ hb) (Nat.lt_irrefl _)
    have hs1:cR ib w w':=fun b hb=>hO.block b (A.mem b hb) (fun hm=>A.dj b hm hb);have hs2:cR ib2 w w':=fun b hb=>hO.block b (Sm b hb) (fun hm=>d1 b hm hb);refine qX (v:=v') (w':=w') F hc ?_ (fun a' F'=>k a' w' v' (sW v') ⟨⟨xs++ys,bss++css,by rw[List.length_append];exact h2,by rw[List.length_append,List.length_append,hl,hl2],by rw[List.flatten_append,hfl,hfl2],fun j y' bj hy' hbj=>?_⟩,rfl,(A.mem.le hO.size).append (Sm.le hO.size),?_⟩ hO hnew F')
    · rw[BigFrame.execOp_builtin,BigFrame.builtin_append]
      simp only[List.map_toArray,List.map_cons,List.map_nil,F.ev hx,F.ev hy]
      simp [hr]
    · by_cases hk:j<l.length
      · rw[List.getElem?_append_left hk] at hy'
        rw[List.getElem?_append_left (by rw[hl];exact hk)] at hbj;have hmul:(j+1)*sz≤l.length*sz:=Nat.mul_le_mul_right _ hk;rw[Nat.add_mul] at hmul;refine hR.fr _ _ _ _ y' bj (he j y' bj hy' hbj) (fun c hc=>hs1 c (by rw[← hfl];exact List.mem_flatten.2 ⟨bj,List.mem_of_getElem? hbj,hc⟩)) (fun q hq=>?_);exact List.getElem?_append_left (by rw[ho.1];omega)
      · rw[List.getElem?_append_right (by omega)] at hy'
        rw[List.getElem?_append_right (by rw[hl];omega),hl] at hbj;refine hR.fr _ _ _ _ y' bj (he2 _ y' bj hy' hbj) (fun c hc=>hs2 c (by rw[← hfl2];exact List.mem_flatten.2 ⟨bj,List.mem_of_getElem? hbj,hc⟩)) (fun q hq=>?_);have hge:l.length*sz≤j*sz:=Nat.mul_le_mul_right _ (by omega);rw[List.getElem?_append_right (by rw[ho.1];omega),ho.1,Nat.sub_mul]
        congr 1
        omega
    · exact Dj.symm (hnew (ib++ib2) (A.mem.append Sm) (Dj.app' A.dj.symm d1.symm))
  rcases hS with ⟨hu,hm0,hib0⟩ | ⟨ad,cap2,ys,css,hu,hyl,hyc,hl2,hfl2,he2⟩
  · subst hm0
    refine fin (ys:=[]) (css:=[]) rfl (by rw[hib0];rfl) (fun i x bi hx=>nomatch hx) (v':=v) (w':=w) ?_ (by rw[List.append_nil];exact ho) ⟨rfl,rfl,rfl,Nat.le_refl _,fun _ _ _=>rfl⟩ (.inl rfl);rw[hu];exact run_append_owned_none (P:=P) w B t ty E i sz ht hi v l.length xs ho
  · obtain ⟨v', w', hr, h2, h3, h4⟩ := xGz (P := P) w B t ty E i z sz bytes ht hi hz hsize hbyt hzs hsz v l.length xs ho ad m.length cap2 ys hyl hyc (Row.ones (E := E) (B := B) (v := v) hsz hyl hl2 he2) (by unfold maxLen; omega) (by
        have:=Nat.mul_le_mul_left (l.length+m.length) hby
        omega) hB
    exact fin hl2 hfl2 he2 (by rw[hu];exact hr) h2 h3 h4
def mkz {β:Type} (z:β) (n:Int):Option (List β):=if 0≤n∧n*1024≤140737488355328 then some (List.replicate n.toNat z) else none
theorem xMr {β:Type} {z:β} {n:Int} {l:List β} (h:mkz z n=some l):0≤n∧n*1024≤140737488355328∧l=List.replicate n.toNat z:=by
  unfold mkz at h
  split at h
  · rename_i h1;exact⟨h1.1,h1.2,(Option.some.inj h).symm⟩
  · cases h
theorem xUh (zs:Array Value) (m i:Nat) (hi:i<m) (hz:0<zs.size):(madeCells zs m)[i]?=zs[i % zs.size]?:=by
  have h:=Nat.mod_lt i hz
  simp [madeCells,hi,h]
theorem xYw [hR:FrC sz R] {x y:Operand} {t E:TypeId} {z:Value} {bytes:Nat} {i:Int} {zero:α} {l:List α} (ht:P.underlying t=some (.slice E)) (hinfo:(P.info? E).map (fun i=>(i.zero,i.size,i.bytes))=some (some z,sz,bytes)) (hzs:z.cells.size=sz) (hsz:0<sz) (hby:bytes≤1024) (hz0:∀ w,R w (fun j=>z.cells[j]?) zero [])
    (F:Sk a n L) (hc:qH ops n L g d=true) (hx:ev L x=some (.int .i64 i)) (hy:ev L y=some (.int .i64 i)) (hl:mkz zero i=some l)
    (k:∀ a' w' v' rb,Row sz R E w.heap.size w' v' l rb []→Below w.heap.size w w'→Sk a' n ((d,v')::L)→wpList P ops Q rest a' w') :
    wpList P ops Q (⟨some d,.makeSlice t x y,ty,pos,af,g⟩::rest) a w:=by
  obtain⟨h0,h1,rfl⟩:=xMr hl;obtain⟨m,rfl⟩:∃ m:Nat,i=m:=⟨i.toNat,by omega⟩;rw[Int.toNat_natCast] at k;have hlb:Below w.heap.size w (w.alloc (.cells (madeCells z.cells (m*sz)) E)):=(Below.refl _ _).alloc (Nat.le_refl _) _;have hr:=xZe (P:=P) ht hinfo m (by have:=Nat.mul_le_mul_right m hby;omega) (by omega) w;refine qX (v:=.slice (some ⟨w.heap.size,0,none⟩) m m) (w':=w.alloc (.cells (madeCells z.cells (m*sz)) E)) F hc ?_ (fun a' F'=>k a' _ _ [w.heap.size] ⟨⟨(madeCells z.cells (m*sz)).toList,List.replicate m [],⟨by simp [size_madeCells],.inr ⟨w.heap.size,m,madeCells z.cells (m*sz),by simp,Nat.le_refl _,heap_alloc_new w _,by simp,by unfold maxLen;omega,by simp [size_madeCells],by rw[List.take_of_length_le (by simp [size_madeCells])]⟩⟩,by simp,by simp,fun j y' bj hy' hbj=>?_⟩,rfl,qM.nil _,Dj.nil _⟩ hlb F')
  · unfold execOp
    simp only[F.ev hx,F.ev hy]
    simp [hr]
  · have hj:j<m:=by have:=(List.getElem?_eq_some_iff.1 hy').1;simpa using this
    have e1:y'=zero:=by rw[List.getElem?_replicate_of_lt hj] at hy';exact(Option.some.inj hy').symm
    have e2:bj=[]:=List.eq_of_mem_replicate (List.mem_of_getElem? hbj);subst e1 e2;refine hR.fr _ _ _ _ _ _ (hz0 w) (fun c hc=>nomatch hc) (fun q hq=>?_)
    have hlt:j*sz+q<m*sz:=by have:=Nat.mul_le_mul_right sz (show j+1≤m from hj);rw[Nat.add_mul] at this;omega
    rw[Array.getElem?_toList,xUh _ _ _ hlt (by omega),hzs,Nat.mul_comm,Nat.mul_add_mod,Nat.mod_eq_of_lt hq]
def RPt (v:Value) (sz i:Nat) (p:Value):Prop:=∃ g m c,v= .slice (some ⟨g,0,none⟩) m c∧p= .pointer (some ⟨g,i*sz,none⟩)
theorem xLz [hR:FrC sz R] {x iy:Operand} {t E:TypeId} {B:Nat} {v:Value} {l:List α} {rb ib:List Nat} {i:Int} {y:α} (ht:P.underlying t=some (.slice E)) (hsz:∀ w,(sizeOf E).run P w= .ok sz w)
    (F:Sk a n L) (hc:qH ops n L g d=true) (he:ev L x=some v) (hi:ev L iy=some (.int .i64 i)) (A:Row sz R E B w v l rb ib) (hix:ix l i=some y)
    (k:∀ a' p bi,Rd (Pt sz R) w p y bi→(∀ c∈bi,c∈rb++ib)→RPt v sz i.toNat p→Sk a' n ((d,p)::L)→wpList P ops Q rest a' w) :
    wpList P ops Q (⟨some d,.indexAddr t x iy,ty,pos,af,g⟩::rest) a w:=by
  obtain⟨p,bi,hr,h1,h2⟩:=xPn (d:=some d) (ty:=ty) (pos:=pos) (af:=af) (g:=g) ht hsz F he hi A.rd hix;refine qX F hc (hr w) (fun a' F'=>k a' p bi h1 h2 ?_ F');obtain⟨h0,hy⟩:=xEf hix;obtain⟨hk,_⟩:=List.getElem?_eq_some_iff.1 hy;obtain⟨xs,bss,ho,_⟩:=A.row
  rcases ho.2 with ⟨rfl,hn⟩ | ⟨g2,cap,cur,rfl,_⟩
  · omega
  · refine⟨g2,_,cap,rfl,?_⟩
    have h3:=hr w
    unfold execOp at h3
    simp only[F.ev he,F.ev hi] at h3
    have hil:i<(l.length:Int):=by omega
    simp [Instr.indexAt,run_underlying ht,asIntOf,h0,hil,hsz,iF] at h3
    exact h3.symm
theorem nA {bss:List (List Nat)} {i:Nat} {bs:List Nat} {c:Nat} (h:c∈(bss.set i bs).flatten):c∈bss.flatten∨c∈bs:=by
  obtain⟨bj,h1,h2⟩:=List.mem_flatten.1 h
  rcases List.mem_or_eq_of_mem_set h1 with h3 | rfl
  · exact .inl (List.mem_flatten.2 ⟨bj,h3,h2⟩)
  · exact .inr h2
theorem xKy {bss:List (List Nat)} {i:Nat} {bs:List Nat} (hn:bss.flatten.Nodup) (hb:bs.Nodup) (hd:Dj bss.flatten bs):(bss.set i bs).flatten.Nodup:=by
  by_cases hi:i<bss.length
  · have e:bss=bss.take i++bss[i]::bss.drop (i+1):=by rw[← List.drop_eq_getElem_cons hi,List.take_append_drop]
    have hm:∀ c,c∈(bss.take i).flatten∨c∈(bss.drop (i+1)).flatten→c∈bss.flatten:=fun c hc=>by
      rcases hc with h | h
      · obtain⟨y,h1,h2⟩:=List.mem_flatten.1 h;exact List.mem_flatten.2 ⟨y,List.mem_of_mem_take h1,h2⟩
      · obtain⟨y,h1,h2⟩:=List.mem_flatten.1 h;exact List.mem_flatten.2 ⟨y,List.mem_of_mem_drop h1,h2⟩
    rw[e] at hn;rw[List.set_eq_take_append_cons_drop,if_pos hi];simp only[List.flatten_append,List.flatten_cons] at hn ⊢;rw[List.nodup_append] at hn;obtain⟨n1,n2,n3⟩:=hn;rw[List.nodup_append] at n2;obtain⟨_,n4,_⟩:=n2;refine List.nodup_append.2 ⟨n1,List.nodup_append.2 ⟨hb,n4,fun a ha b hb' e=>?_⟩,fun a ha b hb' e=>?_⟩
    · subst e;exact hd a (hm a (.inr hb')) ha
    · subst e
      rcases List.mem_append.1 hb' with h | h
      · exact hd a (hm a (.inl ha)) h
      · exact n3 a ha a (List.mem_append_right _ h) rfl
  · rw[List.set_eq_of_length_le (by omega)];exact hn
theorem xSr {R:ER α} [hR:FrC 1 R] {x y:Operand} {t E:TypeId} {B:Nat} {v p u:Value} {l:List α} {rb ib bs:List Nat} {i:Nat} {z:α} (hsz:∀ w,(sizeOf t).run P w= .ok 1 w)
    (F:Sk a n L) (hc:gok ops L g=true) (hx:ev L x=some p) (hy:ev L y=some u) (A:Row 1 R E B w v l rb ib) (hp:RPt v 1 i p) (hi:i<l.length) (hz:El 1 R w u z bs) (hone:u.oneCell'=true) (hd:Dj rb bs)
    (k:∀ w' ib',Row 1 R E B w' v (l.set i z) rb ib'→Only rb w w'→(∀ c∈ib',c∈ib∨c∈bs)→(ib.Nodup→bs.Nodup→Dj ib bs→ib'.Nodup)→wpList P ops Q rest a w') :
    wpList P ops Q (⟨none,.store t x y,ty,pos,af,g⟩::rest) a w:=by
  obtain⟨g2,m,c,rfl,rfl⟩:=hp;obtain⟨xs,bss,ho,hl,hfl,he⟩:=A.row;have hrb:=A.hrb
  simp [sW,Value.ownBlock] at hrb
  subst hrb
  rcases ho.2 with ⟨h,_⟩ | ⟨g3,cap,cur,h,h2,h3,h4,h5,h6,h7⟩
  · cases h
  simp only[Value.slice.injEq,Option.some.injEq,Addr.mk.injEq,and_true] at h;obtain⟨rfl,rfl,rfl⟩:=h;rw[Nat.mul_one] at hx
  have hcells:u.cells = #[u]:=by cases u<;>first | rfl | simp [Value.oneCell'] at hone
  have hlen:=ho.1;rw[Nat.mul_one] at hlen h6 h7
  have hcur:i<cur.size:=by omega
  have hK:fI w g2 cur E:=h3;have hO:Only [g2] w (w.setCell ⟨g2,i,none⟩ u):=⟨rfl,rfl,rfl,by simp,fun k _ hk=>Below.heap_setCell _ _ _ _ (by simpa using hk)⟩;have hib:∀ c,c∈ib→c≠g2:=fun c hc e=>A.dj g2 (by simp) (e ▸ hc);have hbs:∀ c,c∈bs→c≠g2:=fun c hc e=>hd g2 (by simp) (e ▸ hc);refine xMu (w':=w.setCell ⟨g2,i,none⟩ u) F hc ?_ (k _ (bss.set i bs).flatten ⟨⟨xs.set i u,bss.set i bs,⟨by simp [hlen],.inr ⟨g2,c,cur.setIfInBounds i u,by simp,h2,hK.set_at rfl,by simpa using h4,h5,by simpa using h6,?_⟩⟩,by simp [hl],rfl,fun j y' bj hy' hbj=>?_⟩,rfl,fun c hc=>?_,fun b hb hm=>?_⟩ hO ?_ (fun n1 n2 n3=>xKy (by rw[hfl];exact n1) n2 (by rw[hfl];exact n3)))
  · unfold execOp
    simp only[F.ev hx,F.ev hy]
    have h8:w.cell? ⟨g2,i,none⟩=some cur[i]:=by rw[hK.cell,Array.getElem?_eq_getElem hcur]
    simp [Instr.storeAt,Instr.sureAddr,storeVar,hsz,hcells,storeCells,Addr.add,run_store P w _ u _ hone,h8,hK.frozen]
  · simp only[List.length_set,Nat.mul_one,Array.toList_setIfInBounds]
    rw[List.take_set,h7]
  · rw[Nat.mul_one]
    by_cases hji:j=i
    · subst hji
      rw[List.getElem?_set_self hi] at hy';rw[List.getElem?_set_self (by rw[hl];exact hi)] at hbj
      cases hy'
      cases hbj
      refine hR.fr _ _ _ _ _ _ hz.r (fun c hc=>hO.block c (hz.m c hc) (by simpa using hbs c hc)) (fun q hq=>?_)
      obtain rfl:q=0:=by omega
      rw[hcells,Nat.add_zero,List.getElem?_set_self (by omega)]
      rfl
    · rw[List.getElem?_set_ne (fun e=>hji e.symm)] at hy' hbj
      have hm:=he j y' bj hy' hbj;rw[Nat.mul_one] at hm;refine hR.fr _ _ _ _ _ _ hm (fun c hc=>?_) (fun q hq=>?_)
      · have hcib:c∈ib:=by rw[← hfl];exact List.mem_flatten.2 ⟨bj,List.mem_of_getElem? hbj,hc⟩
        exact hO.block c (A.mem c hcib) (by simpa using hib c hcib)
      · obtain rfl:q=0:=by omega
        rw[Nat.add_zero,List.getElem?_set_ne (fun e=>hji e.symm)]
  · rcases nA hc with h | h
    · rw[hfl] at h;exact Nat.lt_of_lt_of_le (A.mem c h) hO.size
    · exact Nat.lt_of_lt_of_le (hz.m c h) hO.size
  · rw[List.mem_singleton] at hb
    subst hb
    rcases nA hm with h | h
    · rw[hfl] at h;exact hib _ h rfl
    · exact hbs _ h rfl
  · intro c hc
    rcases nA hc with h | h
    · rw[hfl] at h;exact .inl h
    · exact .inr h
theorem xBy:∀ (vs:List Value) (o:Nat) (cs:Array Value),(∀ v∈vs,v.oneCell'=true)→o+vs.length≤cs.size→∃ cs',Instr.fill (fun i=>some (i*1,1)) cs ((List.range' o vs.length).zip vs)=some cs'∧cs'.size=cs.size∧∀ i,cs'[i]?=if o≤i∧i<o+vs.length then vs[i - o]? else cs[i]?
  | [],o,cs,_,_=>⟨cs,rfl,rfl,fun i=>by rw[if_neg (by simp only[List.length_nil];omega)]⟩
  | v::r,o,cs,h1,hs=>by
    have hv:=h1 v (by simp)
    have hc:v.cells = #[v]:=by cases v<;>first | rfl | simp [Value.oneCell'] at hv
    simp only[List.length_cons] at hs;obtain⟨cs',e1,e2,e3⟩:=xBy r (o+1) (cs.setIfInBounds o v) (fun u hu=>h1 u (by simp [hu])) (by simp;omega);refine⟨cs',?_,by simpa using e2,fun i=>?_⟩
    · simp only[List.length_cons,List.range'_succ,List.zip_cons_cons]
      unfold Instr.fill
      simp only[hc]
      have h2:¬ (o*1+1 > cs.size):=by omega
      simp [h2,Nat.mul_one] at e1 ⊢
      exact⟨by omega,e1⟩
    · rw[e3 i]
      simp only[List.length_cons]
      by_cases h2:o+1≤i∧i<o+1+r.length
      · rw[if_pos h2,if_pos (by omega),show i - o=(i - (o+1))+1 by omega,List.getElem?_cons_succ]
      · rw[if_neg h2]
        by_cases h3:i=o
        · subst h3
          rw[if_pos (by omega),Nat.sub_self,List.getElem?_cons_zero,Array.getElem?_setIfInBounds,if_pos rfl,if_pos (by omega)]
        · rw[if_neg (by omega),Array.getElem?_setIfInBounds,if_neg (by omega)]
theorem oAg {t e:TypeId} {z:Value} {parts:Array (Nat×Operand)} {m:Nat} {xs:List Operand} {l:List Int} (ht:P.underlying t=some (.slice e)) (hsz:∀ w,(sizeOf e).run P w= .ok 1 w) (hz:∀ w,(zeroValue e).run P w= .ok z w) (hzs:z.cells.size=1)
    (F:Sk a n L) (hc:qH ops n L g d=true) (hp:parts.toList=(List.range' 0 xs.length).zip xs) (hm:m=l.length) (hm1:l.length≤1000) (hm0:0<l.length)
    (hx:evs L xs=some (l.map (Value.int .i64))) (hI:∀ y∈l,xH y)
    (k:∀ a' w' v' rb,Row 1 xG e w.heap.size w' v' l rb []→Below w.heap.size w w'→Sk a' n ((d,v')::L)→wpList P ops Q rest a' w') :
    wpList P ops Q (⟨some d,.buildSlice t m parts,ty,pos,af,g⟩::rest) a w:=by
  subst hm;have hxs:=F.evs hx
  have hlen:xs.length=l.length:=by have:=congrArg List.length hxs;simpa using this
  obtain⟨cs',e1,e2,e3⟩:=xBy (l.map (Value.int .i64)) 0 ((Array.range l.length).map (z.cells[· % z.cells.size]!)) (fun v hv=>by obtain⟨x,_,rfl⟩:=List.mem_map.1 hv;rfl) (by simp)
  have ecs:cs'=(l.map (Value.int .i64)).toArray:=by
    apply Array.ext_getElem?
    intro i;rw[e3 i]
    by_cases h:i<l.length
    · rw[if_pos (by simp;exact h)];simp
    · rw[if_neg (by simp;omega),Array.getElem?_eq_none (by simp;omega),Array.getElem?_eq_none (by simp;omega)]
  have hlb:Below w.heap.size w (w.alloc (.cells cs' e)):=(Below.refl _ _).alloc (Nat.le_refl _) _;refine qX (v:=.slice (some ⟨w.heap.size,0,none⟩) l.length l.length) (w':=w.alloc (.cells cs' e)) F hc ?_ (fun a' F'=>k a' _ _ [w.heap.size] ⟨⟨l.map (Value.int .i64),List.replicate l.length [],⟨by simp,.inr ⟨w.heap.size,l.length,cs',rfl,Nat.le_refl _,heap_alloc_new w _,Nat.le_refl _,by unfold maxLen;omega,by rw[ecs];simp,by rw[ecs,List.take_of_length_le (by simp)]⟩⟩,by simp,by simp,fun i y' bj hy' hbj=>?_⟩,rfl,qM.nil _,Dj.nil _⟩ hlb F')
  · unfold execOp
    have hparts:(parts.map fun(i,x)=>(i,a.eval x)).toList=(List.range' 0 l.length).zip (l.map (Value.int .i64)):=by
      rw[Array.toList_map,hp,← hxs,hlen];rw[List.zip_map_right]
      rfl
    have h0:l.length≠0:=by omega
    have h1:¬ (16777216<l.length):=by omega
    rw[List.length_map] at e1
    simp [Instr.buildSlice,run_underlying ht,hsz,hz,h0,h1,newRow]
    have hparts':List.map (fun x:Nat×Operand=>(x.1,a.eval x.2)) parts.toList=(List.range' 0 l.length).zip (l.map (Value.int .i64)):=by rw[← hparts,Array.toList_map]
    rw[hparts'];simp only[Nat.mul_one] at e1;rw[e1]
    rfl
  · have hi:i<l.length:=(List.getElem?_eq_some_iff.1 hy').1
    have e5:bj=[]:=List.eq_of_mem_replicate (List.mem_of_getElem? hbj);subst e5;exact⟨by simp [hy'],hI y' (List.mem_of_getElem? hy'),rfl⟩
end
end Go.Proofs.YtlommebgedmjdaaGreatDoor
