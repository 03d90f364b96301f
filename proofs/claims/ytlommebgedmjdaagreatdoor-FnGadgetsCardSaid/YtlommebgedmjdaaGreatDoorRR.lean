import Derived.Test.YtlommebgedmjdaaGreatDoorNL
namespace Go.Proofs.YtlommebgedmjdaaGreatDoor
set_option linter.unusedVariables false
set_option linter.unusedSimpArgs false
open Go.RowKit
def wJ:ER Value:=fun _ f x bs=>f 0=some x∧x.oneCell'=true∧bs=[]
instance:FrC 1 wJ:=⟨fun _ _ _ _ _ _ h _ hg=>⟨(hg 0 (by omega)).trans h.1,h.2⟩,fun w f x bs h=>xSl (α:=Nat) h.1 h.2.1⟩
instance:Flat wJ:=⟨fun _ _ _ _ h=>h.2.2⟩
section
variable {X:List Nat} {N:Nat→Prop} {w0 w:World}
theorem Sep.comm {L1 L2:List As} (H:Sep X N w0 w (L1++L2)):Sep X N w0 w (L2++L1):=by
  obtain⟨Y,h1,h2⟩:=H.ex
  have lt:∀ i,i<(L2++L1).length→(if i<L2.length then L1.length+i else i - L2.length)<(L1++L2).length:=fun i hi=>by
    rw[List.length_append] at hi ⊢
    split<;>omega
  refine⟨H.fr,H.nb,fun i=>Y (if i<L2.length then L1.length+i else i - L2.length),fun i A hi=>?_,fun i j hi hj hij=>?_⟩
  · refine h1 _ A ?_
    by_cases hk:i<L2.length
    · rw[if_pos hk,List.getElem?_append_right (by omega)]
      rw[List.getElem?_append_left hk] at hi
      simpa using hi
    · rw[if_neg hk]
      rw[List.getElem?_append_right (by omega)] at hi;rw[List.getElem?_append_left (List.getElem?_eq_some_iff.1 hi).1];exact hi
  · refine h2 _ _ (lt i hi) (lt j hj) ?_
    rw[List.length_append] at hi hj
    split<;>split<;>omega
theorem Sep.sw {A B:As} {L:List As} (H:Sep X N w0 w (A::B::L)):Sep X N w0 w (B::A::L):=by
  obtain⟨Y,h1,h2⟩:=H.ex;refine⟨H.fr,H.nb,fun i=>match i with | 0=>Y 1 | 1=>Y 0 | i+2=>Y (i+2),fun i C hi=>?_,fun i j hi hj hij=>?_⟩
  · match i,hi with
    | 0,hi=>exact h1 1 C (by simpa using hi)
    | 1,hi=>exact h1 0 C (by simpa using hi)
    | i+2,hi=>exact h1 (i+2) C (by simpa using hi)
  · match i,j,hi,hj,hij with
    | 0,0,_,_,h=>exact absurd rfl h
    | 0,1,_,_,_=>exact h2 1 0 (by simp) (by simp) (by omega)
    | 1,0,_,_,_=>exact h2 0 1 (by simp) (by simp) (by omega)
    | 1,1,_,_,h=>exact absurd rfl h
    | 0,j+2,_,hj,_=>exact h2 1 (j+2) (by simp) hj (by omega)
    | 1,j+2,_,hj,_=>exact h2 0 (j+2) (by simp) hj (by omega)
    | i+2,0,hi,_,_=>exact h2 (i+2) 1 hi (by simp) (by omega)
    | i+2,1,hi,_,_=>exact h2 (i+2) 0 hi (by simp) (by omega)
    | i+2,j+2,hi,hj,h=>exact h2 (i+2) (j+2) hi hj (by omega)
variable {α:Type} {sz:Nat} {R:ER α} [hR:FrC sz R] {E E2:TypeId} {M:Nat→Prop}
def mI (M:Nat→Prop) (sz:Nat) (R:ER α) [hR:FrC sz R] (E2:TypeId) (us:List Value) (xss:List (List α)):List As:=List.zipWith (fun u l=>rw M sz R E2 u l) us xss
theorem xRh {us:List Value} {xss:List (List α)} {i:Nat} {u:Value} {l:List α} (h1:us[i]?=some u) (h2:xss[i]?=some l):(mI M sz R E2 us xss)[i]?=some (rw M sz R E2 u l):=by
  unfold mI
  rw[List.getElem?_zipWith,h1,h2]
theorem Sep.nils {L:List As} (H:Sep X N w0 w L) (sz:Nat) (R:ER α) [hR:FrC sz R] (E2:TypeId):∀ (n:Nat),Sep X N w0 w (mI N sz R E2 (List.replicate n cL) (List.replicate n [])++L)
  | 0=>H
  | n+1=>((Sep.nils H sz R E2 n).nl sz R E2).lw.wk
theorem Sep.zrow {v:Value} {us:List Value} {xss:List (List α)} {D:List As} (hl:us.length=xss.length) (hM:∀ c,M c→N c) (H:Sep X N w0 w (rl 1 wJ E v us::(mI M sz R E2 us xss++D))):Sep X N w0 w (rw M 1 (fG sz R) E v xss::D):=by
  obtain⟨Y,h1,h2⟩:=H.ex;obtain⟨⟨rb,ib,r1,_,r2,r3⟩,_,h5⟩:=h1 0 _ rfl;obtain rfl:=sP r1
  have hzl:(mI M sz R E2 us xss).length=xss.length:=by simp [mI,hl]
  have hat:∀ (i:Nat) (hi:i<xss.length),(rl 1 wJ E v us::(mI M sz R E2 us xss++D))[i+1]?=some (rw M sz R E2 (us[i]'(by omega)) xss[i]):=fun i hi=>by
    rw[List.getElem?_cons_succ,List.getElem?_append_left (by omega)];exact xRh (List.getElem?_eq_getElem _) (List.getElem?_eq_getElem hi)
  have hex:∀ (i:Nat) (hi:i<xss.length),∃ bi,Rd (Sl sz R) w (us[i]'(by omega)) xss[i] bi∧∀ c∈bi,c∈Y (i+1)∨M c:=fun i hi=>by
    obtain⟨⟨rb',ib',q1,q2,q3⟩,_,_⟩:=h1 (i+1) _ (hat i hi);exact⟨_,q1.rd,fun c hc=>(List.mem_append.1 hc).elim (fun h=>.inl (q2 c h)) (q3 c)⟩
  obtain⟨f,hf⟩:∃ f:Nat→List Nat,∀ (i:Nat) (hi:i<xss.length),Rd (Sl sz R) w (us[i]'(by omega)) xss[i] (f i)∧∀ c∈f i,c∈Y (i+1)∨M c:=
    ⟨fun i=>if h:i<xss.length then Classical.choose (hex i h) else [],fun i hi=>by
      dsimp only
      rw[dif_pos hi]
      exact Classical.choose_spec (hex i hi)⟩
  obtain⟨xs,bss,g1,g2,g3,g4⟩:=r1.row
  have hmem:∀ c∈((List.range xss.length).map f).flatten,∃ i,i<xss.length∧c∈f i:=fun c hc=>by
    obtain⟨y,hy,hc⟩:=List.mem_flatten.1 hc;obtain⟨i,hi,rfl⟩:=List.mem_map.1 hy;exact⟨i,List.mem_range.1 hi,hc⟩
  have hlt:∀ i,i<xss.length→i+1<(rl 1 wJ E v us::(mI M sz R E2 us xss++D)).length:=fun i hi=>(List.getElem?_eq_some_iff.1 (hat i hi)).1
  have row:Row 1 (fG sz R) E 0 w v xss rb ((List.range xss.length).map f).flatten:=by
    refine⟨⟨xs,(List.range xss.length).map f,hl ▸ g1,by simp,rfl,fun i x bi hx hbi=>?_⟩,r1.hrb,fun c hc=>?_,fun c hc hc'=>?_⟩
    · have hi:i<xss.length:=(List.getElem?_eq_some_iff.1 hx).1
      obtain rfl:xss[i]=x:=by rw[List.getElem?_eq_getElem hi] at hx;exact oj hx
      obtain rfl:f i=bi:=by rw[List.getElem?_map,List.getElem?_range hi] at hbi;exact oj hbi
      have hui:us[i]?=some (us[i]'(by omega)):=List.getElem?_eq_getElem _;obtain⟨c0,hc0⟩:∃ c0,bss[i]?=some c0:=⟨_,List.getElem?_eq_getElem (by omega)⟩;exact⟨_,(g4 i _ _ hui hc0).1,(hf i hi).1.r⟩
    · obtain⟨i,hi,hci⟩:=hmem c hc
      exact(hf i hi).1.m c hci
    · obtain⟨i,hi,hci⟩:=hmem c hc'
      rcases(hf i hi).2 c hci with h | h
      · exact h2 0 (i+1) (by simp) (hlt i hi) (by omega) c (r2 c hc) h
      · exact Sep.own (i:=0) (h5 c (r2 c hc)).2 H (hM c h)
  have hD:∀ (k:Nat) A,D[k]?=some A→(rl 1 wJ E v us::(mI M sz R E2 us xss++D))[xss.length+1+k]?=some A:=fun k A hk=>by
    rw[show xss.length+1+k=(xss.length+k)+1 by omega,List.getElem?_cons_succ,List.getElem?_append_right (by omega),hzl,show xss.length+k - xss.length=k by omega];exact hk
  have hDl:∀ k,k<D.length→xss.length+1+k<(rl 1 wJ E v us::(mI M sz R E2 us xss++D)).length:=fun k hk=>(List.getElem?_eq_some_iff.1 (hD k _ (List.getElem?_eq_getElem hk))).1
  have hY0:∀ c∈(List.range (xss.length+1)).flatMap Y,∃ i,i<xss.length+1∧c∈Y i:=fun c hc=>by
    obtain⟨i,hi,hc⟩:=List.mem_flatMap.1 hc;exact⟨i,List.mem_range.1 hi,hc⟩
  have hY1:∀ (i:Nat) c,i<xss.length+1→c∈Y i→c∈(List.range (xss.length+1)).flatMap Y:=fun i c hi hc=>List.mem_flatMap.2 ⟨i,List.mem_range.2 hi,hc⟩
  have hlt':∀ i,i<xss.length+1→i<(rl 1 wJ E v us::(mI M sz R E2 us xss++D)).length:=fun i hi=>by
    cases i with
    | zero=>simp
    | succ i=>exact hlt i (by omega)
  refine⟨H.fr,H.nb,fun i=>match i with | 0=>(List.range (xss.length+1)).flatMap Y | k+1=>Y (xss.length+1+k),fun i A hi=>?_,fun i j hi hj hij=>?_⟩
  · cases i with
    | zero=>
      simp at hi
      subst hi;refine⟨⟨rb,_,row,fun c hc=>hY1 0 c (by omega) (r2 c hc),fun c hc=>?_⟩,hM,fun c hc=>?_⟩
      · obtain⟨i,hi,hci⟩:=hmem c hc
        exact((hf i hi).2 c hci).imp (fun h=>hY1 (i+1) c (by omega) h) id
      · obtain⟨i,hi,hci⟩:=hY0 c hc
        exact(h1 i _ (List.getElem?_eq_getElem (hlt' i hi))).2.2 c hci
    | succ k=>exact h1 _ A (hD k A (by simpa using hi))
  · have key:∀ k,k<D.length→Dj ((List.range (xss.length+1)).flatMap Y) (Y (xss.length+1+k)):=fun k hk c hc hc'=>by
      obtain⟨i,hi,hci⟩:=hY0 c hc;exact h2 i (xss.length+1+k) (hlt' i hi) (hDl k hk) (by omega) c hci hc'
    cases i with
    | zero=>
      cases j with
      | zero=>exact absurd rfl hij
      | succ k=>exact key k (by simpa using hj)
    | succ i=>
      cases j with
      | zero=>exact(key i (by simpa using hi)).symm
      | succ j=>exact h2 _ _ (hDl i (by simpa using hi)) (hDl j (by simpa using hj)) (by omega)
theorem xNb {us:List Value} {xss:List (List α)} {i:Nat} {u:Value} {l:List α} (h1:us[i]?=some u) (h2:xss[i]?=some l) :
    mI M sz R E2 us xss=mI M sz R E2 (us.take i) (xss.take i)++rw M sz R E2 u l::mI M sz R E2 (us.drop (i+1)) (xss.drop (i+1)) ∧
    ∀ u' l',mI M sz R E2 (us.set i u') (xss.set i l')=mI M sz R E2 (us.take i) (xss.take i)++rw M sz R E2 u' l'::mI M sz R E2 (us.drop (i+1)) (xss.drop (i+1)):=by
  have hi:=(List.getElem?_eq_some_iff.1 h1).1;have hj:=(List.getElem?_eq_some_iff.1 h2).1
  have key:∀ (us:List Value) (xss:List (List α)) u l,us[i]?=some u→xss[i]?=some l→mI M sz R E2 us xss=mI M sz R E2 (us.take i) (xss.take i)++rw M sz R E2 u l::mI M sz R E2 (us.drop (i+1)) (xss.drop (i+1)):=fun us xss u l h1 h2=>by
    have hi:=(List.getElem?_eq_some_iff.1 h1).1;have hj:=(List.getElem?_eq_some_iff.1 h2).1
    have e1:us=us.take i++u::us.drop (i+1):=by
      conv=>lhs;rw[← List.take_append_drop i us]
      rw[List.drop_eq_getElem_cons hi];rw[List.getElem?_eq_getElem hi] at h1;rw[oj h1]
    have e2:xss=xss.take i++l::xss.drop (i+1):=by
      conv=>lhs;rw[← List.take_append_drop i xss]
      rw[List.drop_eq_getElem_cons hj];rw[List.getElem?_eq_getElem hj] at h2;rw[oj h2]
    conv=>lhs;rw[e1,e2]
    unfold mI
    rw[List.zipWith_append (by simp;omega)]
    rfl
  refine⟨key us xss u l h1 h2,fun u' l'=>?_⟩;rw[key (us.set i u') (xss.set i l') u' l' (by simp [hi]) (by simp [hj]),List.take_set_of_le (Nat.le_refl _),List.take_set_of_le (Nat.le_refl _),List.drop_set_of_lt (by omega),List.drop_set_of_lt (by omega)]
end
section
variable {P:Program} {a:Act} {w w1:World} {n:Nat} {L:List (Nat×Value)} {d:Option Tmp} {ty:TypeId} {pos:String} {af:Array Edge} {g:Option (Nat×Bool)} {M:Nat→Prop}
theorem xZv {x:Operand} {t:TypeId} {p:Value} {y:Value} (hag:∀ w,(isAgg t).run P w= .ok false w) (F:Sk a n L) (he:ev L x=some p) (h:Bo M w1 (Pt 1 wJ) p y) :
    ∀ w',Sm M w1 w'→(execOp a.eval ⟨d,.load t x,ty,pos,af,g⟩).run P w'= .ok (.value y) w':=by
  obtain⟨bs,⟨⟨b,o,bi,rfl,rfl,h0,_⟩,hm⟩,hN⟩:=h;intro w' s;refine nY hag F he ?_;rw[jR (s.blk b (hN b (by simp)))]
  simpa using h0
end
theorem Eo.val {α:Type} {sz:Nat} {R:ER α} {M:Nat→Prop} {w:World} {v:Value} {l:List α} (h:Bo M w (Sl sz R) v l):Eo N0 w 1 wJ v v:=by
  obtain⟨_,h1,_⟩:=h;obtain⟨a,c,rfl⟩:=h1.r.val;exact⟨[],⟨rfl,⟨rfl,rfl,rfl⟩,by simp [Value.cells,Value.oneCell'],qM.nil w⟩,fun _ h=>nomatch h⟩
section
variable {X:List Nat} {N M:Nat→Prop} {w0 w:World} {α:Type} {sz:Nat} {R:ER α} [hR:FrC sz R] {E2:TypeId}
theorem Sep.dp {A:As} {L:List As} (H:Sep X N w0 w (A::L)):Sep X N w0 w L:=by
  obtain⟨Y,h1,h2⟩:=H.ex;exact⟨H.fr,H.nb,fun i=>Y (i+1),fun i A hi=>h1 (i+1) A (by simpa using hi),fun i j hi hj hij=>h2 _ _ (by simpa using hi) (by simpa using hj) (by omega)⟩
theorem xUf {us:List Value} {xss:List (List α)}:∀ A∈mI M sz R E2 us xss,∀ c,A.N c→M c:=by
  intro A hA c hc
  unfold mI at hA
  obtain⟨i,hi,rfl⟩:=List.getElem_of_mem hA;rw[List.getElem_zipWith] at hc;exact hc
theorem Sep.back {A:As} {Z1 Z2 D:List As} (H:Sep X N w0 w (D++((A::Z2)++Z1))):Sep X N w0 w (D++(Z1++A::Z2)):=by
  obtain⟨X1,h1,h2⟩:=H.comm.lend;exact(h2 h1.comm).comm
end
end Go.Proofs.YtlommebgedmjdaaGreatDoor
