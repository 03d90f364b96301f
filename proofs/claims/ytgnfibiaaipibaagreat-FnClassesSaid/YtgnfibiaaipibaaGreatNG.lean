import Derived.Test.YtgnfibiaaipibaaGreatNF
namespace Go.Proofs.YtgnfibiaaipibaaGreat
set_option linter.unusedVariables false
set_option linter.unusedSimpArgs false
open Go.RowKit
theorem splice_get (L vs:List Value) (o q:Nat) (h:o+vs.length≤L.length):(L.take o++vs++L.drop (o+vs.length))[q]?=if o≤q∧q<o+vs.length then vs[q - o]? else L[q]?:=by
  by_cases h1:q<o
  · rw[if_neg (by omega),List.append_assoc,List.getElem?_append_left (by rw[List.length_take];omega),List.getElem?_take,if_pos h1]
  · by_cases h2:q<o+vs.length
    · rw[if_pos ⟨by omega,h2⟩,List.getElem?_append_left (by rw[List.length_append,List.length_take];omega),List.getElem?_append_right (by rw[List.length_take];omega),List.length_take,Nat.min_eq_left (by omega)]
    · rw[if_neg (by omega),List.getElem?_append_right (by rw[List.length_append,List.length_take];omega),List.getElem?_drop,List.length_append,List.length_take,Nat.min_eq_left (by omega)]
      congr 1
      omega
def RPO (v:Value) (sz i f:Nat) (p:Value):Prop:=∃ g m c,v= .slice (some ⟨g,0,none⟩) m c∧p= .pointer (some ⟨g,i*sz+f,none⟩)
theorem RPt.o {v p:Value} {sz i:Nat} (h:RPt v sz i p):RPO v sz i 0 p:=h
def Turn {α:Type} (sz:Nat) (R:ER α) (w:World) (f:Nat) (vs:List Value) (y z:α) (bs:List Nat):Prop:=
  ∀ (old h:Nat→Option Value) (bi:List Nat),R w old y bi→(∀ j,j<sz→h j=if f≤j∧j<f+vs.length then vs[j - f]? else old j)→∃ bn,R w h z bn∧∀ c∈bn,c∈bi∨c∈bs
theorem Turn.whole {α:Type} {sz:Nat} {R:ER α} [hR:FrC sz R] {w:World} {vs:List Value} {y z:α} {bs:List Nat} (h:El sz R w (.agg vs.toArray) z bs):vs.length=sz∧Turn sz R w 0 vs y z bs:=by
  have hn:vs.length=sz:=by simpa [Value.cells] using h.n
  refine⟨hn,fun old g bi hr hg=>⟨bs,hR.fr _ _ _ _ _ _ h.r (fun _ _=>rfl) (fun j hj=>?_),fun c hc=>.inr hc⟩⟩;rw[hg j hj,if_pos ⟨Nat.zero_le _,by omega⟩]
  simp [Value.cells]
theorem Row.turn {α:Type} {sz:Nat} {R:ER α} [hR:FrC sz R] {E:TypeId} {B:Nat} {w:World} {v p:Value} {vs:List Value} {l:List α} {rb ib bs:List Nat} {i f:Nat} {y z:α} (A:Row sz R E B w v l rb ib) (hp:RPO v sz i f p) (hy:l[i]?=some y) (hf:f+vs.length≤sz) (hT:Turn sz R w f vs y z bs) (hm:zD bs w) (hd:Dj rb bs) :
    ∃ g arr,p= .pointer (some ⟨g,i*sz+f,none⟩)∧rb=[g]∧fS w g arr E∧i*sz+f+vs.length≤arr.size ∧
      (∀ {w':World},fS w' g (arr.toList.take (i*sz+f)++vs++arr.toList.drop (i*sz+f+vs.length)).toArray E→Only [g] w w'→∃ ib',Row sz R E B w' v (l.set i z) rb ib'∧∀ c∈ib',c∈ib∨c∈bs):=by
  obtain⟨g,m,c,rfl,rfl⟩:=hp;have hi:i<l.length:=(List.getElem?_eq_some_iff.1 hy).1;obtain⟨xs,bss,ho,hl,hfl,he⟩:=A.row;have hrb:=A.hrb
  simp [rbOf,Value.ownBlock] at hrb
  subst hrb
  rcases ho.2 with ⟨h,_⟩ | ⟨g3,cap,cur,h,h2,h3,h4,h5,h6,h7⟩
  · cases h
  simp only[Value.slice.injEq,Option.some.injEq,Addr.mk.injEq,and_true] at h;obtain⟨rfl,rfl,rfl⟩:=h;have hlen:=ho.1
  have hmul:i*sz+sz≤l.length*sz:=by have:=Nat.mul_le_mul_right sz (show i+1≤l.length from hi);rw[Nat.add_mul] at this;omega
  have hcur:l.length*sz≤cur.size:=by
    have:=congrArg List.length h7;rw[List.length_take] at this
    simp at this
    omega
  have hK:fS w g cur E:=h3;refine⟨g,cur,rfl,rfl,hK,by omega,fun {w'} K' hO=>?_⟩;have hib:∀ c,c∈ib→c≠g:=fun c hc e=>A.dj g (by simp) (e ▸ hc);have hbs:∀ c,c∈bs→c≠g:=fun c hc e=>hd g (by simp) (e ▸ hc);have hcl:cur.toList.length=cur.size:=Array.length_toList
  have hbi:i<bss.length:=by rw[hl];exact hi
  obtain⟨bn,hbn1,hbn2⟩:=hT (fun j=>xs[i*sz+j]?) (fun j=>(xs.take (i*sz+f)++vs++xs.drop (i*sz+f+vs.length))[i*sz+j]?) bss[i] (he i y _ hy (List.getElem?_eq_getElem hbi)) (fun j hj=>by
    rw[splice_get xs vs _ _ (by omega)]
    by_cases hq:f≤j∧j<f+vs.length
    · rw[if_pos hq,if_pos (by omega)]
      congr 1
      omega
    · rw[if_neg hq,if_neg (by omega)])
  have hbnib:∀ c∈bn,c∈ib∨c∈bs:=fun c hc=>(hbn2 c hc).imp (fun h=>by rw[← hfl];exact List.mem_flatten.2 ⟨_,List.getElem_mem hbi,h⟩) id;have hbng:∀ c∈bn,c<w.heap.size∧c≠g:=fun c hc=>(hbnib c hc).elim (fun h=>⟨A.mem c h,hib c h⟩) (fun h=>⟨hm c h,hbs c h⟩)
  have hset:∀ c∈(bss.set i bn).flatten,c∈ib∨c∈bs:=fun c hc=>by
    rcases dI hc with h | h
    · rw[hfl] at h;exact .inl h
    · exact hbnib c h
  refine⟨(bss.set i bn).flatten,⟨⟨xs.take (i*sz+f)++vs++xs.drop (i*sz+f+vs.length),bss.set i bn,⟨by simp [hlen];omega,.inr ⟨g,c,_,by simp,h2,K',?_,h5,?_,?_⟩⟩,by simp [hl],rfl,fun j y' bj hy' hbj=>?_⟩,rfl,fun c hc=>?_,fun b hb hmm=>?_⟩,hset⟩
  · simpa using h4
  · simp only[List.size_toArray,List.length_append,List.length_take,List.length_drop]
    omega
  · apply List.ext_getElem?
    intro q;rw[List.getElem?_take,List.length_set];simp only[];rw[splice_get _ vs _ _ (by omega),splice_get _ vs _ _ (by omega),← h7]
    by_cases h1:q<l.length*sz
    · rw[if_pos h1,List.getElem?_take,if_pos h1]
    · rw[if_neg h1,if_neg (by omega),List.getElem?_take,if_neg h1]
  · by_cases hji:j=i
    · subst hji
      rw[List.getElem?_set_self hi] at hy';rw[List.getElem?_set_self hbi] at hbj
      cases hy'
      cases hbj
      exact hR.fr _ _ _ _ _ _ hbn1 (fun c hc=>hO.block c (hbng c hc).1 (by simpa using (hbng c hc).2)) (fun q hq=>rfl)
    · rw[List.getElem?_set_ne (fun e=>hji e.symm)] at hy' hbj
      refine hR.fr _ _ _ _ _ _ (he j y' bj hy' hbj) (fun c hc=>?_) (fun q hq=>?_)
      · have hcib:c∈ib:=by rw[← hfl];exact List.mem_flatten.2 ⟨bj,List.mem_of_getElem? hbj,hc⟩
        exact hO.block c (A.mem c hcib) (by simpa using hib c hcib)
      · rw[splice_get xs vs _ _ (by omega),if_neg]
        intro hh
        rcases Nat.lt_or_gt_of_ne hji with hlt | hlt
        · have:=Nat.mul_le_mul_right sz (show j+1≤i from hlt)
          rw[Nat.add_mul] at this
          omega
        · have:=Nat.mul_le_mul_right sz (show i+1≤j from hlt)
          rw[Nat.add_mul] at this
          omega
  · exact Nat.lt_of_lt_of_le ((hset c hc).elim (A.mem c) (hm c)) hO.size
  · rw[List.mem_singleton] at hb
    subst hb
    rcases hset _ hmm with h | h
    · exact hib _ h rfl
    · exact hbs _ h rfl
section
variable {P:Program} {ops:Array Oper} {Q:Exit→Act→World→Prop} {a:Act} {w w0 w1:World} {n:Nat} {L:List (Nat×Value)} {rest:List Oper} {d:Nat} {ty:TypeId} {pos:String} {af:Array Edge} {g:Option (Nat×Bool)} {M N N1:Nat→Prop} {X:List Nat} {D:List As} {A:As}
theorem oFr {α β:Type} {sz s':Nat} {R:ER α} {R':ER β} {x:Operand} {t:TypeId} {kk:Nat} {v p:Value} {y:α} {z:β} {i f off:Nat} (hp:∀ (a:Addr) w,(Instr.fieldAt t (.pointer (some a)) kk).run P w= .ok (.pointer (some (a.add off))) w)
    (F:Sk a n L) (hc:kK ops n L g d=true) (he:ev L x=some p) (h:Bo M w1 (Pt sz R) p y) (hf:∀ f bi,R w1 f y bi→∃ bj,R' w1 (fun j=>f (off+j)) z bj∧∀ c∈bj,c∈bi) {sz':Nat} (hq:RPO v sz' i f p)
    (k:∀ a' p',Bo M w1 (Pt s' R') p' z→RPO v sz' i (f+off) p'→Sk a' n ((d,p')::L)→wpList P ops Q rest a' w):wpList P ops Q (⟨some d,.fieldAddr t x kk,ty,pos,af,g⟩::rest) a w:=by
  obtain⟨p',hr,h'⟩:=b_field (d:=some d) (ty:=ty) (pos:=pos) (af:=af) (g:=g) (s':=s') hp F he h hf;refine zB F hc (hr w) (fun a' F'=>k a' p' h' ?_ F');obtain⟨g2,m,c,rfl,rfl⟩:=hq;refine⟨g2,m,c,rfl,?_⟩;have h3:=hr w
  unfold execOp at h3
  simp only[F.ev he] at h3
  simp [hp,cH,Nat.add_assoc] at h3
  exact h3.symm
def Stv (P:Program) (t:TypeId) (u:Value) (vs:List Value):Prop:=(∀ w,(sizeOf t).run P w= .ok vs.length w)∧(u= .agg vs.toArray∧∀ q∈vs,q.oneCell'=true)∨(∀ w,(sizeOf t).run P w= .ok 1 w)∧vs=[u]∧u.oneCell'=true
theorem o_bstoreX {x y:Operand} {t:TypeId} {b o:Nat} {u:Value} {vs:List Value} {arr:Array Value} {T:TypeId} (F:Sk a n L) (hc:gok ops L g=true) (he:ev L x=some (.pointer (some ⟨b,o,none⟩))) (he':ev L y=some u) (hu:Stv P t u vs) (h:fS w b arr T) (ho:o+vs.length≤arr.size)
    (k:∀ w',fS w' b (arr.toList.take o++vs++arr.toList.drop (o+vs.length)).toArray T→Only [b] w w'→wpList P ops Q rest a w'):wpList P ops Q (⟨none,.store t x y,ty,pos,af,g⟩::rest) a w:=by
  rcases hu with ⟨hsz,rfl,hv⟩ | ⟨hsz,rfl,hv⟩
  · exact o_bstoreA hsz F hc he he' h hv ho rfl k
  · simp only[List.length_singleton] at ho k
    refine o_bstore (arr':=(arr.toList.take o++[u]++arr.toList.drop (o+1)).toArray) hsz F hc he he' h hv (by omega) ?_ k
    apply Array.ext_getElem?
    intro q;have hs:=splice_get arr.toList [u] o q (by simp;omega);simp only[List.length_singleton] at hs;rw[← Array.getElem?_toList,← Array.getElem?_toList];simp only[Array.toList_setIfInBounds];rw[hs]
    by_cases hq:q=o
    · subst hq
      simp [show q<arr.size by omega]
    · rw[if_neg (by omega),List.getElem?_set_ne (by omega)]
def Tn {α:Type} (N:Nat→Prop) (w:World) (sz:Nat) (R:ER α) (f:Nat) (vs:List Value) (y z:α):Prop:=∃ bs,Turn sz R w f vs y z bs∧zD bs w∧(∀ c∈bs,N c)∧f+vs.length≤sz
theorem Eo.tn {α:Type} {sz:Nat} {R:ER α} [hR:FrC sz R] {vs:List Value} {y z:α} (h:Eo N w sz R (.agg vs.toArray) z):Tn N w sz R 0 vs y z:=
  let ⟨bs,h1,h2⟩:=h;let ⟨h3,h4⟩:=Turn.whole h1;⟨bs,h4,h1.m,h2,by omega⟩
theorem oSX {α:Type} {sz:Nat} {R:ER α} [hR:FrC sz R] {x y:Operand} {t E:TypeId} {v p q:Value} {vs:List Value} {l l':List α} {i f:Nat} {u z:α}
    (F:Sk a n L) (hc:gok ops L g=true) (hx:ev L x=some p) (hy:ev L y=some q) (hq:Stv P t q vs) (H:Sep X N w0 w (rw N1 sz R E v l::A::D)) (hp:RPO v sz i f p) (hi:l[i]?=some u) (hA:∀ c,A.N c→N1 c) (hz:∀ {N':Nat→Prop},(∀ c,N1 c→N' c)→Rdg N' w A→Tn N' w sz R f vs u z) (hl:l.set i z=l')
    (k:∀ w',Sep X N w0 w' (rw N1 sz R E v l'::D)→wpList P ops Q rest a w'):wpList P ops Q (⟨none,.store t x y,ty,pos,af,g⟩::rest) a w:=by
  obtain⟨Y,⟨Y1,Y2,⟨rb,ib,r1,r2,r3⟩,hP,dj,y1,y2⟩,hN,hY,tr⟩:=H.mg.hd;have hN1:∀ c,N1 c→N c:=fun c hc=>hN c (.inl hc);obtain⟨bs,h1,hm,h2,hf⟩:=hz (N':=fun c=>c∈Y2∨N1 c) (fun c hc=>.inr hc) ⟨Y2,hP,fun c hc=>.inl hc,fun c hc=>.inr (hA c hc)⟩;subst hl
  obtain⟨g2,arr,rfl,rfl,hK,hsz2,turn⟩:=r1.turn hp hi hf h1 hm (fun c hc hc2=>by
    rcases h2 c hc2 with h | h
    · exact dj c (r2 c hc) h
    · exact(hY c (y1 c (r2 c hc))).2 (hN1 c h))
  refine o_bstoreX F hc hx hy hq hK hsz2 (fun w' K' lo=>?_);obtain⟨ib',q,hs⟩:=turn K' lo;refine k w' (tr (Z:=[g2]) (fun c hc=>y1 c (r2 c hc)) lo (B:=rw N1 sz R E v (l.set i z)) (Y1:=Y) ⟨_,ib',q,fun c hc=>y1 c (r2 c hc),fun c hc=>?_⟩ hN1 (fun c hc=>⟨.inl hc,Nat.lt_of_lt_of_le (hY c hc).1 lo.size⟩))
  rcases hs c hc with h | h
  · exact(r3 c h).imp (y1 c) id
  · exact(h2 c h).imp (y2 c) id
end
section
variable {P:Program} {ops:Array Oper} {Q:Exit→Act→World→Prop} {a:Act} {w w0 w1:World} {n:Nat} {L:List (Nat×Value)} {rest:List Oper} {d:Nat} {dd:Option Tmp} {ty:TypeId} {pos:String} {af:Array Edge} {g:Option (Nat×Bool)} {M N N1:Nat→Prop} {X:List Nat} {D:List As} {A:As}
theorem r_min {x y:Operand} {ts:Array TypeId} {i j:Int} (F:Sk a n L) (e:ev L x=some (.int .i64 i)) (e':ev L y=some (.int .i64 j)) {w':World} :
    (execOp a.eval ⟨dd,.call ⟨.builtin .min,#[x,y],ts⟩,ty,pos,af,g⟩).run P w'= .ok (.value (.int .i64 (if j<i then j else i))) w':=by
  rw[BigFrame.execOp_builtin,BigFrame.builtin_min];simp only[List.map_toArray,List.map_cons,List.map_nil,F.ev e,F.ev e']
  simp [Builtin.min_,Builtin.min2]
  try (split<;>rfl)
theorem o_min {x y:Operand} {ts:Array TypeId} {i j:Int} (F:Sk a n L) (hc:kK ops n L g d=true) (e:ev L x=some (.int .i64 i)) (e':ev L y=some (.int .i64 j))
    (k:∀ a',Sk a' n ((d,.int .i64 (if j<i then j else i))::L)→wpList P ops Q rest a' w):wpList P ops Q (⟨some d,.call ⟨.builtin .min,#[x,y],ts⟩,ty,pos,af,g⟩::rest) a w:=zB F hc (r_min F e e') k
theorem oRtl {α:Type} {R:ER α} [hR:FrC 1 R] {x lo:Operand} {t E:TypeId} {v:Value} {l r:List α} {i:Int} (ht:P.underlying t=some (.slice E)) (hsz:∀ w,(sizeOf E).run P w= .ok 1 w)
    (F:Sk a n L) (hc:kK ops n L g d=true) (hx:ev L x=some v) (hlo:ev L lo=some (.int .i64 i)) (H:Sep X N w0 w D) (j:Nat) (hj:D[j]?=some (rl 1 R E v l)) (hs:sl l i (l.length:Int)=some r)
    (k:∀ a' p,RTl v l.length i.toNat p→Sk a' n ((d,p)::L)→wpList P ops Q rest a' w):wpList P ops Q (⟨some d,.slice t x (some lo) none none,ty,pos,af,g⟩::rest) a w:=by
  obtain⟨Y,⟨rb,ib,r1,_,r2,r3⟩,hY,hN⟩:=H.g j hj;exact o_rtail ht hsz F hc hx hlo r1 hs k
theorem oRcl {x:Operand} {t E:TypeId} {v p:Value} {l:List Int} {i:Nat} (ht:P.underlying t=some (.slice E)) (hv:∀ w,(zeroValue E).run P w= .ok (.int .i64 0) w)
    (F:Sk a n L) (hc:gok ops L g=true) (hx:ev L x=some p) (H:Sep X N w0 w (rl 1 xH E v l::D)) (T:RTl v l.length i p)
    (k:∀ w',Sep X N w0 w' (rl 1 xH E v (l.take i++List.replicate (l.length - i) 0)::D)→wpList P ops Q rest a w'):wpList P ops Q (⟨none,.call ⟨.builtin .clear,#[x],#[t]⟩,ty,pos,af,g⟩::rest) a w:=by
  obtain⟨Y,⟨rb,ib,r1,ho,r2,r3⟩,hN,hY,tr⟩:=H.hd;obtain rfl:=row_flat r1;exact o_rclear ht hv F hc hx r1 T (fun w' q lo _=>k w' (tr (Z:=rb) r2 lo (B:=rl 1 xH E v _) (Y1:=Y) ⟨rb,[],q,Own.nil _ _,r2,fun _ h=>nomatch h⟩ n0 (fun c hc=>⟨.inl hc,Nat.lt_of_lt_of_le (hY c hc).1 lo.size⟩)))
theorem oEz {α:Type} {sz:Nat} {R:ER α} {x y:Operand} {t t':TypeId} {v:Value} {l:List α} {e0:TypeId} (ht:P.underlying t=some (.slice e0)) (F:Sk a n L) (hc:kK ops n L g d=true) (e:ev L x=some v) (e':ev L y=some (.slice none 0 0)) (h:Bo M w (Sl sz R) v l) (hz:l=[]→v= .slice none 0 0)
    (k:∀ a',Sk a' n ((d,.bool l.isEmpty)::L)→wpList P ops Q rest a' w):wpList P ops Q (⟨some d,.binOp .eql t x y t',ty,pos,af,g⟩::rest) a w:=
  let ⟨_,h1,_⟩:=h;o_eqlnil ht F hc e e' h1 hz k
end
theorem ix_get {α:Type} {l:List α} {i:Int} {y:α} (h:ix l i=some y):l[i.toNat]?=some y:=(ix_some h).2
section
variable {X:List Nat} {N M:Nat→Prop} {w0 w:World} {L:List As} {A B C:As}
theorem Sep.upt {M':Nat→Prop} {α:Type} {sz:Nat} {R:ER α} [hR:FrC sz R] {E:TypeId} {v:Value} {l:List α} (H:Sep X N w0 w (rw M sz R E v l::L)) (h:∀ c,M c→M' c) (h':∀ c,M' c→N c):Sep X N w0 w (rw M' sz R E v l::L):=by
  obtain⟨Y,⟨rb,ib,r1,r2,r3⟩,hN,hY,tr⟩:=H.hd;exact tr (Z:=[]) (fun _ h=>nomatch h) (Only.refl _ _) (B:=rw M' sz R E v l) (Y1:=Y) ⟨rb,ib,r1,r2,fun c hc=>(r3 c hc).imp id (h c)⟩ h' (fun c hc=>⟨.inl hc,(hY c hc).1⟩)
end
def Ab (f:(Nat→Prop)→As):Prop:=(∀ N c,(f N).N c→N c)∧∀ {M N:Nat→Prop} {w:World} {Y Z:List Nat},(∀ c,M c→N c∨c∈Y)→(f M).P w Z→(f N).P w (Z++Y)
theorem Ab.rw {α:Type} {sz:Nat} {R:ER α} [hR:FrC sz R] {E:TypeId} {v:Value} {l:List α}:Ab (fun N=>Go.Proofs.YtgnfibiaaipibaaGreat.rw N sz R E v l):=
  ⟨fun _ _ h=>h,fun h ⟨rb,ib,r1,r2,r3⟩=>⟨rb,ib,r1,fun c hc=>List.mem_append_left _ (r2 c hc),fun c hc=>(r3 c hc).elim (fun h=>.inl (List.mem_append_left _ h)) (fun g=>(h c g).elim .inr (fun g=>.inl (List.mem_append_right _ g)))⟩⟩
theorem Ab.ro {α:Type} {V:VR α} [hV:VF V] {v:Value} {x:α}:Ab (fun N=>Go.Proofs.YtgnfibiaaipibaaGreat.ro N (V:=V) v x):=
  ⟨fun _ _ h=>h,fun h ⟨bs,r1,r2⟩=>⟨bs,r1,fun c hc=>(r2 c hc).elim (fun h=>.inl (List.mem_append_left _ h)) (fun g=>(h c g).elim .inr (fun g=>.inl (List.mem_append_right _ g)))⟩⟩
theorem Sep.fza {X:List Nat} {N:Nat→Prop} {w0 w:World} {L:List As} {A:As} (H:Sep X N w0 w (A::L)):∃ (X1:List Nat) (N1:Nat→Prop),Rdg N1 w A∧Lf N w0 N1 w∧Sep X1 N1 w w L ∧
    ((∀ {w':World} {K:List As},Sep X1 N1 w w' K→(∀ B∈K,∀ c,B.N c→N c)→Sep X N w0 w' (A::K)) ∧
    (∀ {w':World} {K:List As} {α:Type} {V:VR α} [VF V] {v:Value} {x:α},Sep X1 N1 w w' (Go.Proofs.YtgnfibiaaipibaaGreat.ro N1 (V:=V) v x::K)→(∀ B∈K,∀ c,B.N c→N c)→Sep X N w0 w' (Go.Proofs.YtgnfibiaaipibaaGreat.ro N (V:=V) v x::K))∧(∀ c,N c→N1 c)) ∧
    (∀ {f:(Nat→Prop)→As},Ab f→∀ {w':World} {K:List As},Sep X1 N1 w w' (f N1::K)→(∀ B∈K,∀ c,B.N c→N c)→Sep X N w0 w' (f N::K)):=by
  obtain⟨Y,h1,h2⟩:=H.ex;obtain⟨h3,h4,h5⟩:=h1 0 A rfl
  have hX1:∀ c,c∈(List.range L.length).flatMap (fun i=>Y (i+1))↔∃ i,i<L.length∧c∈Y (i+1):=fun c=>by simp
  have own:∀ i,i<L.length→∀ c∈Y (i+1),c<w.heap.size∧(c∈X∨w0.heap.size≤c):=fun i hi c hc=>(h1 (i+1) L[i] (by simp [hi])).2.2 c hc
  have hnot:∀ c,(N c∨c∈Y 0)→c ∉ (List.range L.length).flatMap (fun i=>Y (i+1)):=fun c hc hm=>by
    obtain⟨i,hi,hci⟩:=(hX1 c).1 hm
    rcases hc with hc | hc
    · exact Sep.own (i:=0) (own i hi c hci).2 H hc
    · exact h2 0 (i+1) (by simp) (by simp [hi]) (by omega) c hc hci
  have hX1X:∀ c,c∈(List.range L.length).flatMap (fun i=>Y (i+1))→c∈X∨w0.heap.size≤c:=fun c hc=>by
    obtain⟨i,hi,hci⟩:=(hX1 c).1 hc;exact(own i hi c hci).2
  have ab:∀ {f:(Nat→Prop)→As},Ab f→∀ {w':World} {K:List As},Sep ((List.range L.length).flatMap (fun i=>Y (i+1))) (fun c=>N c∨c∈Y 0) w w' (f (fun c=>N c∨c∈Y 0)::K)→(∀ B∈K,∀ c,B.N c→N c)→Sep X N w0 w' (f N::K):=fun {f} hf {w' K} S hN=>by
    obtain⟨Z,g1,g2⟩:=S.ex
    have key:∀ k,k<(f (fun c=>N c∨c∈Y 0)::K).length→Dj (Y 0) (Z k):=fun k hk c hc hc'=>by
      rcases((g1 k _ (List.getElem?_eq_getElem hk)).2.2 c hc').2 with h | h
      · exact hnot c (.inr hc) h
      · have:=(h5 c hc).1
        omega
    have g0:=g1 0 _ rfl
    have hlen:(f N::K).length=(f (fun c=>N c∨c∈Y 0)::K).length:=by simp
    refine⟨⟨S.fr.os.trans H.fr.os,S.fr.tape.trans H.fr.tape,S.fr.output.trans H.fr.output,Nat.le_trans H.fr.size S.fr.size,fun k hk hn=>?_⟩,H.nb,fun i=>match i with | 0=>Z 0++Y 0 | i+1=>Z (i+1),fun i B hi=>?_,fun i j hi hj hij=>?_⟩
    · rw[S.fr.block k (Nat.lt_of_lt_of_le hk H.fr.size) (fun hm=>by rcases hX1X k hm with h | h;exact hn h;omega),H.fr.block k hk hn]
    · cases i with
      | zero=>
        simp at hi
        subst hi;refine⟨hf.2 (fun c h=>h) g0.1,fun c hc=>hf.1 _ c hc,fun c hc=>?_⟩
        rcases List.mem_append.1 hc with hc | hc
        · refine⟨(g0.2.2 c hc).1,?_⟩
          rcases(g0.2.2 c hc).2 with h | h
          · exact hX1X c h
          · exact .inr (Nat.le_trans H.fr.size h)
        · exact⟨Nat.lt_of_lt_of_le (h5 c hc).1 S.fr.size,(h5 c hc).2⟩
      | succ i=>
        have hi':K[i]?=some B:=by simpa using hi
        obtain⟨g3,g4,g5⟩:=g1 (i+1) B (by simpa using hi');refine⟨g3,hN B (List.mem_of_getElem? hi'),fun c hc=>⟨(g5 c hc).1,?_⟩⟩
        rcases(g5 c hc).2 with h | h
        · exact hX1X c h
        · exact .inr (Nat.le_trans H.fr.size h)
    · rw[hlen] at hi hj
      cases i with
      | zero=>
        cases j with
        | zero=>exact absurd rfl hij
        | succ j=>exact Dj.app' (g2 0 (j+1) hi hj (by omega)) (key (j+1) hj)
      | succ i=>
        cases j with
        | zero=>exact(Dj.app' (g2 0 (i+1) hj hi (by omega)) (key (i+1) hi)).symm
        | succ j=>exact g2 (i+1) (j+1) hi hj hij
  refine⟨(List.range L.length).flatMap (fun i=>Y (i+1)),fun c=>N c∨c∈Y 0,⟨Y 0,h3,fun c hc=>.inr hc,fun c hc=>.inl (h4 c hc)⟩,fun h=>(h.to H.sm).mono (fun c hc=>.inl hc),⟨Only.refl _ _,fun c hc=>⟨?_,hnot c hc⟩,fun i=>Y (i+1),fun i B hi=>?_,fun i j hi hj hij=>h2 (i+1) (j+1) (by simpa using hi) (by simpa using hj) (by omega)⟩,⟨fun {w' K} S hN=>?_,fun {w' K α V hV v x} S hN=>ab Ab.ro S hN,fun c hc=>.inl hc⟩,ab⟩
  · rcases hc with hc | hc
    · exact Nat.lt_of_lt_of_le (H.nb c hc).1 H.fr.size
    · exact(h5 c hc).1
  · have hlt:=(List.getElem?_eq_some_iff.1 hi).1
    obtain⟨h6,h7,h8⟩:=h1 (i+1) B (by simpa using hi);exact⟨h6,fun c hc=>.inl (h7 c hc),fun c hc=>⟨(h8 c hc).1,.inl ((hX1 c).2 ⟨i,hlt,hc⟩)⟩⟩
  · obtain⟨Z,g1,g2⟩:=S.ex
    refine⟨⟨S.fr.os.trans H.fr.os,S.fr.tape.trans H.fr.tape,S.fr.output.trans H.fr.output,Nat.le_trans H.fr.size S.fr.size,fun k hk hn=>?_⟩,H.nb,fun i=>match i with | 0=>Y 0 | i+1=>Z i,fun i B hi=>?_,fun i j hi hj hij=>?_⟩
    · rw[S.fr.block k (Nat.lt_of_lt_of_le hk H.fr.size) (fun hm=>by rcases hX1X k hm with h | h;exact hn h;omega),H.fr.block k hk hn]
    · cases i with
      | zero=>
        simp at hi
        subst hi;exact⟨A.st h3 (fun c hc=>S.sm.blk c (.inr hc)) (fun c hc=>S.sm.blk c (.inl (h4 c hc))) S.fr.size,h4,fun c hc=>⟨Nat.lt_of_lt_of_le (h5 c hc).1 S.fr.size,(h5 c hc).2⟩⟩
      | succ i=>
        have hi':K[i]?=some B:=by simpa using hi
        obtain⟨g3,g4,g5⟩:=g1 i B hi';refine⟨g3,hN B (List.mem_of_getElem? hi'),fun c hc=>⟨(g5 c hc).1,?_⟩⟩
        rcases(g5 c hc).2 with h | h
        · exact hX1X c h
        · exact .inr (Nat.le_trans H.fr.size h)
    · have key:∀ k,k<K.length→Dj (Y 0) (Z k):=fun k hk c hc hc'=>by
        rcases((g1 k _ (List.getElem?_eq_getElem hk)).2.2 c hc').2 with h | h
        · exact hnot c (.inr hc) h
        · have:=(h5 c hc).1
          omega
      cases i with
      | zero=>
        cases j with
        | zero=>exact absurd rfl hij
        | succ j=>exact key j (by simpa using hj)
      | succ i=>
        cases j with
        | zero=>exact(key i (by simpa using hi)).symm
        | succ j=>exact g2 i j (by simpa using hi) (by simpa using hj) (by omega)
end Go.Proofs.YtgnfibiaaipibaaGreat
