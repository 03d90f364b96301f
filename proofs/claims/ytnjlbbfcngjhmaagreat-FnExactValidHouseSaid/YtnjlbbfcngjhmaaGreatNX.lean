import Derived.Test.YtnjlbbfcngjhmaaGreatJP
namespace Go.Proofs.YtnjlbbfcngjhmaaGreat
set_option linter.unusedVariables false
set_option linter.unusedSimpArgs false
open Go.RowKit
variable {iy:Operand} {x:Operand}
def rc {α:Type} (sz:Nat) (R:ER α) [hR:FrC sz R] (cs:List Vl) (m:List (Option α)):As:= ⟨N0,λw Y=>∃ bss:List (List Nat),bss.length=m.length/\Own 0 bss.flatten w/\(∀ c∈bss.flatten,c∈Y)/\∀ i x bi,m[i]?=some (some x)->bss[i]?=some bi->R w (λj=>cs[i*sz+j]?) x bi,λ{w w' Y} h h1 _ hs=>by
 obtain⟨bss,h3,h4,h5,h6⟩:=h
 exact⟨bss,h3,h4.same (λc hc=>h1 c (h5 c hc)),h5,λi x bi hx hi=>hR.fr _ _ _ _ _ _ (h6 i x bi hx hi) (λc hc=>h1 c (h5 c (Bl.2 ⟨bi,Ae hi,hc⟩))) (λ_ _=>rfl)⟩⟩
def cl (cs:List Vl) (sz i:Nat):List Vl:=(cs.drop (i*sz)).take sz
theorem rF {cs:List Vl} {sz i j:Nat} (h:j<sz):(cl cs sz i)[j]?=cs[i*sz+j]?:=by
 unfold cl;rw[Be,if_pos h,Dr]
theorem xAt {cs:List Vl} {sz i n:Nat} (h:i<n) (hn:n*sz<=cs.length):(cl cs sz i).length=sz:=by
 unfold cl
 have:(i+1)*sz<=n*sz:=Bf _ h;rw[Ct] at this;simp only[Bc,Dk];omega
section
variable {X:List Nat} {N:Nat->Prop} {w0 w:Wd} {D:List As} {A B:As} {α:Type} {sz:Nat} {R:ER α} [hR:FrC sz R] {E:Ty} {v:Vl} {l:List α}
theorem Sep.imp (H:Sep X N w0 w (A::D)) (h:∀ {Y},A.P w Y->(∀ c∈Y,c<w.heap.size)->B.P w Y) (hN:∀ c,B.N c->N c):Sep X N w0 w (B::D):=by
 obtain⟨Y,hP,_,hY,tr⟩:=H.hd;exact tr (Z:=[]) (λ_ h=>nomatch h) (B5.refl _ _) (B:=B) (Y1:=Y) (h hP (λc hc=>(hY c hc).1)) hN (λc hc=>⟨.inl hc,(hY c hc).1⟩)
structure Vw (v:Vl) (g n c:Nat) (sz:Nat) (cs:List Vl):Prop where
  e:v= .slice (some ⟨g,0,none⟩) n c
  h:n<=c/\c<=maxLen/\cs.length=c*sz
theorem Vw.le {v:Vl} {g n c:Nat} {cs:List Vl} (h:Vw v g n c sz cs):n*sz<=cs.length:=by rw[h.h.2.2];exact Bf _ h.h.1
theorem Sep.opn (H:Sep X N w0 w (rl sz R E v l::D)) (hl:0<l.length):∃ u:Nat×Nat×List Vl,Sep X N w0 w (bx u.1 u.2.2 E::rc sz R u.2.2 (l.map some)::D)/\Vw v u.1 l.length u.2.1 sz u.2.2:=by
 obtain⟨Y0,⟨rb0,ib0,r0,_⟩,_⟩:=H.hd;obtain⟨xs,bss,ho,hbl,hfl,he⟩:=r0.row
 rcases ho.2 with ⟨rfl,h0⟩ | ⟨g,cap,cur,hv,h1,h2,h3,h4,h5,h6⟩
 ·omega
 refine⟨(g,cap,cur.toList),Sep.um (H.imp (B:=pr (bx g cur.toList E) (rc sz R cur.toList (l.map some))) (λ{Y} hP hY=>?_) (λc hc=>hc.elim (λh=>h.elim) (λh=>h.elim))),hv,h3,h4,by simpa using h5⟩;obtain⟨rb,ib,r,o,hrb,qd⟩:=hP;have hh:=r.hrb;subst hv
 simp [uE,Value.ownBlock] at hh
 subst hh;obtain⟨xs2,bss2,qe,qc,qa,qf⟩:=r.row
 rcases qe.2 with ⟨h,_⟩ | ⟨g2,cap2,cur2,qg,k1,k2,k3,k4,k5,k6⟩
 ·cases h
 cases qg
 rw[h2] at k2
 cases k2
 refine⟨[g],ib,⟨by simpa [nA] using h2,by simp⟩,⟨bss2,by simpa using qc,qa ▸ o,λc hc=>qa ▸ hc,λi x bi hx hi=>?_⟩,r.dj,hrb,qd⟩;rw[Ay,En] at hx;obtain⟨y,hy,qh⟩:=hx
 cases qh
 refine hR.fr _ _ _ _ _ _ (qf i x bi hy hi) (λ_ _=>rfl) (λj hj=>?_);have qi:i<l.length:=(Ac.1 hy).1;have hm:(i+1)*sz<=l.length*sz:=Bf _ qi;rw[Ct] at hm;rw[<- k6,Be,if_pos (by omega)]
theorem Sep.cls {g c:Nat} {cs:List Vl} (H:Sep X N w0 w (bx g cs E::rc sz R cs (l.map some)::D)) (hv:Vw v g l.length c sz cs):Sep X N w0 w (rl sz R E v l::D):=by
 refine H.mg.imp (λ{Y} hP hY=>?_) (λc hc=>hc.elim);obtain⟨Y1,Y2,⟨h1,h2⟩,⟨bss,h3,h4,h5,h6⟩,dj,y1,y2⟩:=hP;obtain⟨rfl,k1,k2,k3⟩:=hv;refine⟨[g],bss.flatten,⟨⟨cs.take (l.length*sz),bss,⟨?_,.inr ⟨g,c,cs.toArray,rfl,Dc _,h1,k1,k2,by simpa using k3,by simp⟩⟩,by simpa using h3,rfl,λi x bi hx hi=>?_⟩,rfl,h4.inMem,λb hb qa=>?_⟩,h4,λb hb=>?_,λb hb=>y2 b (h5 b hb)⟩
 ·rw[Bc,k3];exact Eu (Bf _ k1)
 ·refine hR.fr _ _ _ _ _ _ (h6 i x bi (by rw[Ay,hx];rfl) hi) (λ_ _=>rfl) (λj hj=>?_)
  have qc:i<l.length:=(Ac.1 hx).1;have hm:(i+1)*sz<=l.length*sz:=Bf _ qc;rw[Ct] at hm;rw[Be,if_pos (by omega)]
 ·simp at hb;subst hb;exact dj _ h2 (h5 _ qa)
 ·simp at hb;subst hb;exact y1 _ h2
theorem Sep.tk {cs:List Vl} {m:List (Option α)} (H:Sep X N w0 w (rc sz R cs m::D)) (i:Nat) {x:α} (hi:m[i]?=some (some x)) (hl:(cl cs sz i).length=sz):Sep X N w0 w (ow (V:=qS sz R) (.agg (cl cs sz i).toArray) x::rc sz R cs (m.set i none)::D):=by
 refine Sep.um (H.imp (B:=pr (ow (V:=qS sz R) (.agg (cl cs sz i).toArray) x) (rc sz R cs (m.set i none))) (λ{Y} hP hY=>?_) (λc hc=>hc.elim (λh=>h.elim) (λh=>h.elim)));obtain⟨bss,h3,h4,h5,h6⟩:=hP
 have qa:i<bss.length:=by rw[h3];exact(Ac.1 hi).1
 have qe:=Aa qa;have qc:=xEj h4.1 qe;have qd:∀ c∈bss[i],c∈bss.flatten:=λc hc=>Bl.2 ⟨_,Bn qa,hc⟩
 refine⟨bss[i],(bss.set i []).flatten,⟨bss[i],⟨⟨_,hl,rfl,hR.fr _ _ _ _ _ _ (h6 i x _ hi qe) (λ_ _=>rfl) (λj hj=>rF hj)⟩,λc hc=>hY c (h5 c (qd c hc))⟩,⟨qc.1,λc hc=>h4.2 c (qd c hc)⟩,λ_ h=>h⟩,⟨bss.set i [],by simpa using h3,⟨qc.2.1,λc hc=>h4.2 c (mO hc)⟩,λ_ h=>h,λj y bj hy hj=>?_⟩,qc.2.2,λc hc=>h5 c (qd c hc),λc hc=>h5 c (mO hc)⟩
 by_cases e:j=i
 ·subst e;rw[Al (by rw[<- h3];exact qa)] at hy;cases hy
 ·rw[Aj (λh=>e h.symm)] at hy hj;exact h6 j y bj hy hj
theorem xPf {bss:List (List Nat)} {i:Nat} {bi:List Nat} {w:Wd} (h:Own 0 bss.flatten w) (hi:bss[i]?=some []) (k:Own 0 bi w) (d:Dj bi bss.flatten):Own 0 (bss.set i bi).flatten w/\∀ c∈(bss.set i bi).flatten,c∈bi∨c∈bss.flatten:=by
 obtain⟨hl,he⟩:=Ac.1 hi
 have e:bss.flatten=(bss.take i).flatten++(bss.drop (i+1)).flatten:=by
  have e:bss=bss.take i++[]::bss.drop (i+1):=by rw[<- he,<- Br hl,Es]
  have:=congrArg List.flatten e
  simpa only [Em,List.flatten_cons,Bp] using this
 have e2:(bss.set i bi).flatten=(bss.take i).flatten++(bi++(bss.drop (i+1)).flatten):=by rw[List.set_eq_take_append_cons_drop,if_pos hl];simp only[Em,List.flatten_cons]
 rw[e] at h d;rw[e2,e]
 have hm:∀ c,c∈(bss.take i).flatten++(bi++(bss.drop (i+1)).flatten)->c∈bi∨c∈(bss.take i).flatten++(bss.drop (i+1)).flatten:=λc hc=>by
  simp only[Ar] at hc ⊢;rcases hc with h | h | h<;>simp [h]
 refine⟨⟨?_,λc hc=>(hm c hc).elim (k.2 c) (h.2 c)⟩,hm⟩;have hn:=Ch.1 h.1;refine Ch.2 ⟨hn.1,Ch.2 ⟨k.1,hn.2.1,λa ha b hb e=>d a ha (Bq _ (e ▸ hb))⟩,λa ha b hb e=>?_⟩
 rcases Ar.1 hb with h1 | h1
 ·exact d b h1 (Bt _ (e ▸ ha))
 ·exact hn.2.2 a ha b h1 e
theorem Sep.pt {cs vs:List Vl} {m:List (Option α)} {i:Nat} {x:α} (H:Sep X N w0 w (ow (V:=qS sz R) (.agg vs.toArray) x::rc sz R cs m::D)) (hi:m[i]?=some none) (hv:vs=cl cs sz i):Sep X N w0 w (rc sz R cs (m.set i (some x))::D):=by
 refine H.mg.imp (λ{Y} hP hY=>?_) (λc hc=>hc.elim);obtain⟨Y1,Y2,⟨bi,⟨⟨cs2,k1,k2,k3⟩,_⟩,k4,k5⟩,⟨bss,h3,h4,h5,h6⟩,dj,y1,y2⟩:=hP
 have e2:cs2=vs:=by have:=congrArg Value.cells k2;simp [Value.cells] at this;exact this.symm
 subst e2;have qc:=(Ac.1 hi).1
 have qa:i<bss.length:=by rw[h3];exact qc
 have qd:=xEj h4.1 (Aa qa);have qe:Own 0 (bss.set i []).flatten w:=⟨qd.2.1,λc hc=>h4.2 c (mO hc)⟩;have hf:=xPf (bss:=bss.set i []) (i:=i) (bi:=bi) qe (Al qa) k4 (λc hc qf=>dj c (k5 c hc) (h5 c (mO qf)));rw[List.set_set] at hf;refine⟨bss.set i bi,by simp [h3],hf.1,λc hc=>(hf.2 c hc).elim (λh=>y1 c (k5 c h)) (λh=>y2 c (h5 c (mO h))),λj y bj hy hj=>?_⟩
 by_cases e:j=i
 ·subst e
  rw[Al qc] at hy;rw[Al qa] at hj
  cases hy;cases hj
  refine hR.fr _ _ _ _ _ _ k3 (λ_ _=>rfl) (λq hq=>?_);rw[hv,rF hq]
 ·rw[Aj (λh=>e h.symm)] at hy hj;exact h6 j y bj hy hj
theorem Sep.ct {cs cs':List Vl} {m:List (Option α)} (H:Sep X N w0 w (rc sz R cs m::D)) (h:∀ i x,m[i]?=some (some x)->∀ j,j<sz->cs'[i*sz+j]?=cs[i*sz+j]?):Sep X N w0 w (rc sz R cs' m::D):= H.imp (λ{Y} ⟨bss,h3,h4,h5,h6⟩ hY=>⟨bss,h3,h4,h5,λi x bi hx hi=>hR.fr _ _ _ _ _ _ (h6 i x bi hx hi) (λ_ _=>rfl) (λj hj=>h i x hx j hj)⟩) (λc hc=>hc.elim)
end
def wr (cs:List Vl) (o:Nat) (vs:List Vl):List Vl:=cs.take o++vs++cs.drop (o+vs.length)
theorem wM {cs vs:List Vl} {o:Nat} (h:o+vs.length<=cs.length):(wr cs o vs).length=cs.length:=by
 unfold wr;simp only[Aq,Bc,Dk];omega
theorem xPc {cs vs:List Vl} {o j:Nat} (h:o+vs.length<=cs.length):(wr cs o vs)[j]?=if o<=j/\j<o+vs.length then vs[j - o]? else cs[j]?:=by
 unfold wr
 have hl:(cs.take o).length=o:=by rw[Bc];omega
 by_cases h1:j<o
 ·rw[if_neg (by omega),Df,Bs (by omega),Be,if_pos h1]
 ·by_cases h2:j<o+vs.length
  ·rw[if_pos ⟨by omega,h2⟩,Bs (by rw[Aq,hl];omega),Bb (by omega),hl]
  ·rw[if_neg (by omega),Bb (by rw[Aq,hl];omega),Aq,hl,Dr]
   congr 1;omega
theorem xDz {i j q sz:Nat} (h:j≠i) (hq:q<sz):¬ (i*sz<=j*sz+q/\j*sz+q<i*sz+sz):=by
 rintro ⟨h1,h2⟩
 rcases Nat.lt_or_gt_of_ne h with h3 | h3
 ·have:(j+1)*sz<=i*sz:=Bf _ h3
  rw[Ct] at this;omega
 ·have:(i+1)*sz<=j*sz:=Bf _ h3
  rw[Ct] at this;omega
theorem xXf {cs cs':List Vl} {sz i j:Nat} (h:∀ q,q<sz->cs'[i*sz+q]?=cs[j*sz+q]?):cl cs' sz i=cl cs sz j:=by
 unfold cl
 apply Cs
 intro q;simp only[Be,Dr]
 by_cases hq:q<sz
 ·rw[if_pos hq,if_pos hq];exact h q hq
 ·rw[if_neg hq,if_neg hq]
section
variable {X:List Nat} {N:Nat->Prop} {w0 w:Wd} {D:List As} {A B:As} {α:Type} {sz:Nat} {R:ER α} [hR:FrC sz R] {E:Ty} {v:Vl} {l:List α}
theorem Sep.one1 {cs:List Vl} (H:Sep X N w0 w (rc sz R cs (l.map some)::D)):∀ (i:Nat) x,l[i]?=some x->∀ u∈cl cs sz i,u.oneCell'=true:=by
 obtain⟨Y,⟨bss,h3,_,_,h6⟩,_⟩:=H.hd;intro i x hx u hu
 have hi:i<bss.length:=by rw[h3,Bu];exact(Ac.1 hx).1
 obtain⟨q,hq,rfl⟩:=Bx hu
 have qa:q<sz:=by unfold cl at hq;rw[Bc] at hq;omega
 obtain⟨u,h1,h2⟩:=hR.tot _ _ _ _ (h6 i x _ (by rw[Ay,hx];rfl) (Aa hi)) q qa;have h4:=rF (cs:=cs) (i:=i) qa;rw[Aa hq] at h4;rw[<- h4] at h1
 cases h1
 exact h2
theorem Sep.sw (H:Sep X N w0 w (A::B::D)):Sep X N w0 w (B::A::D):=by
 obtain⟨_,_,hN,_⟩:=H.mg.hd;exact Sep.um (H.mg.imp (B:=pr B A) (λ{Y} ⟨Y1,Y2,h1,h2,d,y1,y2⟩ _=>⟨Y2,Y1,h2,h1,d.symm,y2,y1⟩) (λc hc=>hN c hc.symm))
theorem Sep.swp {cs:List Vl} {i k:Nat} {x y:α} (H:Sep X N w0 w (rc sz R cs (l.map some)::D)) (hi:l[i]?=some x) (hk:l[k]?=some y) (hn:l.length*sz<=cs.length) :
 Sep X N w0 w (rc sz R (wr (wr cs (i*sz) (cl cs sz k)) (k*sz) (cl cs sz i)) (((l.set i y).set k x).map some)::D):=by
 have qa:=(Ac.1 hi).1;have qc:=(Ac.1 hk).1;have li:=xAt qa hn;have lk:=xAt qc hn
 have bi:i*sz+sz<=cs.length:=by have:=Bf sz (show i+1<=l.length from qa);rw[Ct] at this;omega
 have bk:k*sz+sz<=cs.length:=by have:=Bf sz (show k+1<=l.length from qc);rw[Ct] at this;omega
 have g1:∀ q,(wr cs (i*sz) (cl cs sz k))[q]?=if i*sz<=q/\q<i*sz+sz then (cl cs sz k)[q - i*sz]? else cs[q]?:=λq=>by rw[xPc (by omega),lk]
 have g2:∀ q,(wr (wr cs (i*sz) (cl cs sz k)) (k*sz) (cl cs sz i))[q]?=if k*sz<=q/\q<k*sz+sz then (cl cs sz i)[q - k*sz]? else if i*sz<=q/\q<i*sz+sz then (cl cs sz k)[q - i*sz]? else cs[q]?:=λq=>by
  rw[xPc (by rw[wM (by omega)];omega),li]
  split
  ·rfl
  ·exact g1 q
 by_cases e:i=k
 ·subst e
  rw[hi] at hk;cases hk
  have:(l.set i x).set i x=l:=by
   rw[List.set_set];apply Cs;intro q
   by_cases hq:i=q
   ·subst hq;rw[Al qa,hi]
   ·rw[Aj hq]
  rw[this];refine H.ct (λj z hz q hq=>?_);rw[g2]
  split
  ·rename_i h;have hj:j=i:=Classical.byContradiction λh2=>xDz h2 hq h
   subst hj;rw[Ei];exact rF hq
  ·rfl
 ·have m1:(l.map some)[i]?=some (some x):=by rw[Ay,hi];rfl
  have m2:((l.map some).set i none)[k]?=some (some y):=by rw[Aj e,Ay,hk];rfl
  have H1:=H.tk i m1 li;have H2:=H1.sw.tk k m2 lk;have H3:=H2.sw
  have H4:Sep X N w0 w (rc sz R (wr (wr cs (i*sz) (cl cs sz k)) (k*sz) (cl cs sz i)) (((l.map some).set i none).set k none)::ow (V:=qS sz R) (.agg (cl cs sz k).toArray) y::ow (V:=qS sz R) (.agg (cl cs sz i).toArray) x::D):=by
   refine H3.ct (λj z hz q hq=>?_)
   have hj:j≠i/\j≠k:=by
    constructor
    ·rintro rfl
     rw[Aj (λh=>e h.symm),Al (by simpa using qa)] at hz;cases hz
    ·rintro rfl
     rw[Al (by simpa using qc)] at hz;cases hz
   rw[g2,if_neg (xDz hj.2 hq),if_neg (xDz hj.1 hq)]
  have H5:=H4.sw.pt (i:=i) (by rw[Aj (λh=>e h.symm),Al (by simpa using qa)]) (xXf (λq hq=>by
   rw[g2,if_neg (xDz e hq),if_pos ⟨by omega,by omega⟩,Ei,rF hq])).symm
  have H6:=H5.sw.pt (i:=k) (by rw[Aj e,Al (by simpa using qc)]) (xXf (λq hq=>by
   rw[g2,if_pos ⟨by omega,by omega⟩,Ei,rF hq])).symm
  have:((((l.map some).set i none).set k none).set i (some y)).set k (some x)=((l.set i y).set k x).map some:=by
   rw[List.map_set,List.map_set]
   apply Cs
   intro q
   by_cases h1:k=q
   ·subst h1;rw[Al (by simpa using qc),Al (by simpa using qc)]
   ·rw[Aj h1,Aj h1]
    by_cases h2:i=q
    ·subst h2;rw[Al (by simpa using qa),Al (by simpa using qa)]
    ·rw[Aj h2,Aj h2,Aj h1,Aj h2]
  rw[this] at H6;exact H6
end
def rcw (M:Nat->Prop) {α:Type} (sz:Nat) (R:ER α) [hR:FrC sz R] (cs:List Vl) (m:List α):As:= ⟨M,λw Y=>∃ bss:List (List Nat),bss.length=m.length/\zW bss.flatten w/\(∀ c∈bss.flatten,c∈Y∨M c)/\∀ i x bi,m[i]?=some x->bss[i]?=some bi->R w (λj=>cs[i*sz+j]?) x bi,λ{w w' Y} h h1 h2 hs=>by
 obtain⟨bss,h3,h4,h5,h6⟩:=h
 exact⟨bss,h3,h4.le hs,h5,λi x bi hx hi=>hR.fr _ _ _ _ _ _ (h6 i x bi hx hi) (λc hc=>(h5 c (Bl.2 ⟨bi,Ae hi,hc⟩)).elim (h1 c) (h2 c)) (λ_ _=>rfl)⟩⟩
section
variable {X:List Nat} {N M:Nat->Prop} {w0 w:Wd} {D:List As} {A B:As} {α:Type} {sz:Nat} {R:ER α} [hR:FrC sz R] {E:Ty} {v:Vl} {l:List α}
theorem Sep.opw (H:Sep X N w0 w (rw M sz R E v l::D)) (hl:0<l.length):∃ u:Nat×Nat×List Vl,Sep X N w0 w (bx u.1 u.2.2 E::rcw M sz R u.2.2 l::D)/\Vw v u.1 l.length u.2.1 sz u.2.2:=by
 obtain⟨Y0,⟨rb0,ib0,r0,_⟩,qd,_⟩:=H.hd;obtain⟨xs,bss,ho,hbl,hfl,he⟩:=r0.row
 rcases ho.2 with ⟨rfl,h0⟩ | ⟨g,cap,cur,hv,h1,h2,h3,h4,h5,h6⟩
 ·omega
 refine⟨(g,cap,cur.toList),Sep.um (H.imp (B:=pr (bx g cur.toList E) (rcw M sz R cur.toList l)) (λ{Y} hP hY=>?_) (λc hc=>hc.elim (λh=>h.elim) (qd c))),hv,h3,h4,by simpa using h5⟩;obtain⟨rb,ib,r,hrb,qe⟩:=hP;have hh:=r.hrb;subst hv
 simp [uE,Value.ownBlock] at hh
 subst hh;obtain⟨xs2,bss2,qf,qc,qa,qg⟩:=r.row
 rcases qf.2 with ⟨h,_⟩ | ⟨g2,cap2,cur2,qh,k1,k2,k3,k4,k5,k6⟩
 ·cases h
 cases qh
 rw[h2] at k2
 cases k2
 refine⟨[g],ib.filter (λc=>decide (c∈Y)),⟨by simpa [nA] using h2,by simp⟩,⟨bss2,qc,qa ▸ r.mem,λc hc=>?_,λi y bi hy hi=>?_⟩,λc hc qi=>r.dj c hc (Cz.1 qi).1,hrb,λc hc=>by simpa using (Cz.1 hc).2⟩
 ·rw[qa] at hc
  rcases qe c hc with h | h
  ·exact .inl (Cz.2 ⟨hc,by simpa using h⟩)
  ·exact .inr h
 ·refine hR.fr _ _ _ _ _ _ (qg i y bi hy hi) (λ_ _=>rfl) (λj hj=>?_)
  have qj:i<l.length:=(Ac.1 hy).1;have hm:(i+1)*sz<=l.length*sz:=Bf _ qj;rw[Ct] at hm;rw[<- k6,Be,if_pos (by omega)]
theorem Sep.clw {g c:Nat} {cs:List Vl} (H:Sep X N w0 w (bx g cs E::rcw M sz R cs l::D)) (hv:Vw v g l.length c sz cs):Sep X N w0 w (rw M sz R E v l::D):=by
 obtain⟨Y,⟨Y1,Y2,⟨h1,h2⟩,⟨bss,h3,h4,h5,h6⟩,dj,y1,y2⟩,qa,hY,tr⟩:=H.mg.hd;obtain⟨rfl,k1,k2,k3⟩:=hv;refine tr (Z:=[]) (λ_ h=>nomatch h) (B5.refl _ _) (B:=rw M sz R E _ l) (Y1:=Y) ⟨[g],bss.flatten,⟨⟨cs.take (l.length*sz),bss,⟨?_,.inr ⟨g,c,cs.toArray,rfl,Dc _,h1,k1,k2,by simpa using k3,by simp⟩⟩,h3,rfl,λi x bi hx hi=>?_⟩,rfl,h4,λb hb qc=>?_⟩,λb hb=>?_,λb hb=>(h5 b hb).imp (y2 b) id⟩ (λc hc=>qa c (.inr hc)) (λc hc=>⟨.inl hc,(hY c hc).1⟩)
 ·rw[Bc,k3];exact Eu (Bf _ k1)
 ·refine hR.fr _ _ _ _ _ _ (h6 i x bi hx hi) (λ_ _=>rfl) (λj hj=>?_)
  have qd:i<l.length:=(Ac.1 hx).1;have hm:(i+1)*sz<=l.length*sz:=Bf _ qd;rw[Ct] at hm;rw[Be,if_pos (by omega)]
 ·simp at hb;subst hb
  rcases h5 b qc with h | h
  ·exact dj _ h2 h
  ·exact(hY b (y1 b h2)).2 (qa b (.inr h))
 ·simp at hb;subst hb;exact y1 _ h2
theorem Sep.onw {cs:List Vl} (H:Sep X N w0 w (rcw M sz R cs l::D)):∀ (i:Nat) x,l[i]?=some x->∀ u∈cl cs sz i,u.oneCell'=true:=by
 obtain⟨Y,⟨bss,h3,_,_,h6⟩,_⟩:=H.hd;intro i x hx u hu
 have hi:i<bss.length:=by rw[h3];exact(Ac.1 hx).1
 obtain⟨q,hq,rfl⟩:=Bx hu
 have qa:q<sz:=by unfold cl at hq;rw[Bc] at hq;omega
 obtain⟨u,h1,h2⟩:=hR.tot _ _ _ _ (h6 i x _ hx (Aa hi)) q qa;have h4:=rF (cs:=cs) (i:=i) qa;rw[Aa hq] at h4;rw[<- h4] at h1
 cases h1
 exact h2
theorem Sep.sww {cs:List Vl} {i k:Nat} {x y:α} (H:Sep X N w0 w (rcw M sz R cs l::D)) (hi:l[i]?=some x) (hk:l[k]?=some y) (hn:l.length*sz<=cs.length) :
 Sep X N w0 w (rcw M sz R (wr (wr cs (i*sz) (cl cs sz k)) (k*sz) (cl cs sz i)) ((l.set i y).set k x)::D):=by
 have qc:=(Ac.1 hi).1;have qd:=(Ac.1 hk).1;have li:=xAt qc hn;have lk:=xAt qd hn
 have bi:i*sz+sz<=cs.length:=by have:=Bf sz (show i+1<=l.length from qc);rw[Ct] at this;omega
 have bk:k*sz+sz<=cs.length:=by have:=Bf sz (show k+1<=l.length from qd);rw[Ct] at this;omega
 have g2:∀ q,(wr (wr cs (i*sz) (cl cs sz k)) (k*sz) (cl cs sz i))[q]?=if k*sz<=q/\q<k*sz+sz then (cl cs sz i)[q - k*sz]? else if i*sz<=q/\q<i*sz+sz then (cl cs sz k)[q - i*sz]? else cs[q]?:=λq=>by
  rw[xPc (by rw[wM (by omega)];omega),li]
  split
  ·rfl
  ·rw[xPc (by omega),lk]
 obtain⟨_,_,qg,_⟩:=H.hd;refine H.imp (λ{Y} ⟨bss,h3,h4,h5,h6⟩ hY=>?_) qg
 have qe:i<bss.length:=by omega
 have qf:k<bss.length:=by omega
 have qa:∀ c,c∈((bss.set i bss[k]).set k bss[i]).flatten->c∈bss.flatten:=λc hc=>by
  rcases dR hc with h | h
  ·rcases dR h with h | h
   ·exact h
   ·exact Bl.2 ⟨_,Bn qf,h⟩
  ·exact Bl.2 ⟨_,Bn qe,h⟩
 refine⟨(bss.set i bss[k]).set k bss[i],by simp [h3],λc hc=>h4 c (qa c hc),λc hc=>h5 c (qa c hc),λj z bj hz hj=>?_⟩
 by_cases e1:k=j
 ·subst e1
  rw[Al (by simpa using qd)] at hz;rw[Al (by simpa using qf)] at hj
  cases hz;cases hj
  refine hR.fr _ _ _ _ _ _ (h6 i x _ hi (Aa qe)) (λ_ _=>rfl) (λq hq=>?_);rw[g2,if_pos ⟨by omega,by omega⟩,Ei,rF hq]
 ·rw[Aj e1] at hz hj
  by_cases e2:i=j
  ·subst e2
   rw[Al qc] at hz;rw[Al qe] at hj
   cases hz;cases hj
   refine hR.fr _ _ _ _ _ _ (h6 k y _ hk (Aa qf)) (λ_ _=>rfl) (λq hq=>?_);rw[g2,if_neg (xDz (λh=>e1 h.symm) hq),if_pos ⟨by omega,by omega⟩,Ei,rF hq]
  ·rw[Aj e2] at hz hj
   refine hR.fr _ _ _ _ _ _ (h6 j z bj hz hj) (λ_ _=>rfl) (λq hq=>?_);rw[g2,if_neg (xDz (λh=>e1 h.symm) hq),if_neg (xDz (λh=>e2 h.symm) hq)]
end
theorem oLg {P:Program} {a:Act} {n:Nat} {L:List (Nat×Vl)} {d:Option Tmp} {ty:Ty} {pos:String} {af:Array Edge} {gg:Option (Nat×Bool)} {t e:Ty} {sz g m c:Nat} {i:Int} (ht:P.underlying t=some (.slice e)) (qc:∀ w,(sizeOf e).run P w= .ok sz w)
 (F:Sk a n L) (he:ev L x=some (.slice (some ⟨g,0,none⟩) m c)) (hi:ev L iy=some (.int .i64 i)) (h0:0<=i) (h1:i<m) (w':Wd) :
 (execOp a.eval ⟨d,.indexAddr t x iy,ty,pos,af,gg⟩).run P w'= .ok (.value (.pointer (some ⟨g,i.toNat*sz,none⟩))) w':=by
 have qa:=dW g 0 (i.toNat*sz)
 unfold execOp
 simp only[F.ev he,F.ev hi]
 simp [Instr.indexAt,run_underlying ht,asIntOf,h0,h1,qc,qa]
section
variable {P:Program} {ops:Array Oper} {Q:Exit->Act->Wd->Prop} {n:Nat} {X:List Nat} {N:Nat->Prop} {w0:Wd} {L:List (Nat×Vl)} {D:List As} {ρ:Type} {tt:Option ρ} {CC:ρ->Prop} {G:Act->Wd->Prop} {rest:List Oper} {d:Nat} {ty:Ty} {pos:String} {af:Array Edge} {gg:Option (Nat×Bool)}
theorem jix {t e:Ty} {sz g m c:Nat} {i:Int} [ht:Ug P t (.slice e)] [hsz:Sz P e sz] (h:0<=i/\i<m) (kt:J n X N w0 ((d,.pointer (some ⟨g,i.toNat*sz,none⟩))::L) D tt CC (wpList P ops Q rest)) (hc:vO ops n L gg d=true:=by rfl) (he:ev L x=some (.slice (some ⟨g,0,none⟩) m c):=by rfl) (hi:ev L iy=some (.int .i64 i):=by rfl):J n X N w0 L D tt CC (wpList P ops Q (⟨some d,.indexAddr t x iy,ty,pos,af,gg⟩::rest)):=⟨λa w F H xq h1 h2=>zT F hc (oLg ht.h hsz.h F he hi h.1 h.2 w) (λa' F'=>kt.h a' w F' H xq h1 h2)⟩
theorem xGm {Mv:Nat->Prop} {K:Act->Wd->Prop} {f:Nat} {ls:Array Bool} (ii:Nat) {t e:Ty} {sz g m c:Nat} {i:Int} (qa:ops[ii]?=some ⟨some d,.indexAddr t x iy,ty,pos,af,gg⟩) [ht:Ug P t (.slice e)] [qc:Sz P e sz] (h:0<=i/\i<m) (kt:J n X N w0 ((d,.pointer (some ⟨g,i.toNat*sz,none⟩))::L) D tt CC (zB P ops K (Sm Mv) f (ls.setIfInBounds ii true))) (hc:vO ops n L gg d=true:=by rfl) (he:ev L x=some (.slice (some ⟨g,0,none⟩) m c):=by rfl) (hi:ev L iy=some (.int .i64 i):=by rfl) (hb:bqc ops ls ii false=true:=by kernel_rfl):J n X N w0 L D tt CC (zB P ops K (Sm Mv) (f+1) ls):= jvz ii qa (λF H w _=>oLg ht.h qc.h F he hi h.1 h.2 w) kt hc hb
theorem jfc {φ:Prop} (f:∀ {w},Sep X N w0 w D->φ) (kt:φ->J n X N w0 L D tt CC G):J n X N w0 L D tt CC G:=⟨λa w F H xq h1 h2=>(kt (f H)).h a w F H xq h1 h2⟩
theorem xMa {γ:Type} {φ:γ->Prop} {E:γ->List As} (f:∀ {w},Sep X N w0 w D->∃ u,Sep X N w0 w (E u)/\φ u) (kt:∀ u,φ u->J n X N w0 L (E u) tt CC G):J n X N w0 L D tt CC G:=⟨λa w F H xq h1 h2=>let ⟨u,H',hu⟩:=f H;(kt u hu).h a w F H' xq h1 h2⟩
end
end Go.Proofs.YtnjlbbfcngjhmaaGreat
