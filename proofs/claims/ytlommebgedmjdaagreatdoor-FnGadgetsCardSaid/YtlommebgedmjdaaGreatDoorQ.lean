import Derived.Test.YtlommebgedmjdaaGreatDoorK
import Derived.Lib.SliceRun
namespace Go.Proofs.YtlommebgedmjdaaGreatDoor
set_option linter.unusedVariables false
set_option linter.unusedSimpArgs false
open Go.RowKit
def Frs (X:List Nat) (n:Nat) (bs:List Nat):Prop:=∀ c∈bs,c∈X∨n≤c
theorem Frs.nil (X:List Nat) (n:Nat):Frs X n []:=fun _ h=>nomatch h
theorem Frs.mem {X:List Nat} {n:Nat} {bs:List Nat} (h:∀ c∈bs,c∈X):Frs X n bs:=fun c hc=>.inl (h c hc)
theorem Frs.keep {X rb rb':List Nat} {n:Nat} {w:World} (h:Frs X n rb) (hn:n≤w.heap.size) (k:∀ Y,qM Y w→Dj Y rb→Dj Y rb'):Frs X n rb':=by
  intro c hc
  rcases Nat.lt_or_ge c w.heap.size with h1 | h1
  · by_cases h2:c∈rb
    · exact h c h2
    · exact absurd hc (k [c] (fun d hd=>by rw[List.mem_singleton] at hd;subst hd;exact h1) (fun d hd=>by rw[List.mem_singleton] at hd;subst hd;exact h2) c (by simp))
  · exact .inr (Nat.le_trans hn h1)
theorem Frs.trans {X Y bs:List Nat} {n m:Nat} (h:Frs Y m bs) (k:Frs X n Y) (hm:n≤m):Frs X n bs:=fun c hc=>(h c hc).elim (k c) (fun h=>.inr (Nat.le_trans hm h))
theorem Dj.one {a b:Nat} (h:a≠b):Dj [a] [b]:=fun c hc hb=>by rw[List.mem_singleton] at hc hb;exact h (hc.symm.trans hb)
def xNi (X:List Nat) (Φ:Value→World→Prop) (w:World) (e:Ending) (w':World):Prop:=∃ v,e= .returned v∧Only X w w'∧Φ v w'
section
variable {P:Program} {ops:Array Oper} {Q:Exit→Act→World→Prop} {a:Act} {w:World} {n:Nat} {L:List (Nat×Value)} {rest:List Oper} {d:Nat} {ty:TypeId} {pos:String} {af:Array Edge} {g:Option (Nat×Bool)}
theorem xLb {f:FuncId} {xs:List Operand} {at':Array TypeId} {vs:List Value} {X:List Nat} {Φ:Value→World→Prop} (F:Sk a n L) (hc:qH ops n L g d=true) (hf:∀ args w,(callFunc f args).run P w= .ok (.enter f args) w)
    (e:evs L xs=some vs) (cl:Calls P f vs.toArray w (xNi X Φ w))
    (k:∀ a' v w',Only X w w'→Φ v w'→Sk a' n ((d,v)::L)→wpList P ops Q rest a' w') :
    wpList P ops Q (⟨some d,.call ⟨.value (.func f),xs.toArray,at'⟩,ty,pos,af,g⟩::rest) a w:=
  xNh (Φ:=fun v w'=>Only X w w'∧Φ v w') F hc hf e cl (fun e w' ⟨v,he,hb,hφ⟩=>⟨v,he,hb,hφ⟩) (fun a' v w' h F'=>k a' v w' h.1 h.2 F')
end
section
variable {P:Program} {ops:Array Oper} {Q:Exit→Act→World→Prop} {a:Act} {w:World} {n:Nat} {L:List (Nat×Value)} {rest:List Oper} {d:Nat} {ty:TypeId} {pos:String} {af:Array Edge} {g:Option (Nat×Bool)}
theorem xVe {α:Type} {sz:Nat} {R:ER α} [hR:FrC sz R] {x hi:Operand} {t E B:Nat} {v:Value} {l r:List α} {rb ib:List Nat} {j:Int} (ht:P.underlying t=some (.slice E)) (hsz:∀ w,(sizeOf E).run P w= .ok sz w)
    (F:Sk a n L) (hc:qH ops n L g d=true) (hx:ev L x=some v) (hhi:ev L hi=some (.int .i64 j)) (A:Row sz R E B w v l rb ib) (hs:sl l 0 j=some r)
    (k:∀ a' v' ib',Row sz R E B w v' r rb ib'→List.Sublist ib' ib→Sk a' n ((d,v')::L)→wpList P ops Q rest a' w):wpList P ops Q (⟨some d,.slice t x none (some hi) none,ty,pos,af,g⟩::rest) a w:=by
  obtain⟨_,h0,hjl,rfl⟩:=xPd hs;obtain⟨j,rfl⟩:∃ m:Nat,j=m:=⟨j.toNat,by omega⟩
  have hjl':j≤l.length:=by omega
  simp only[Int.toNat_natCast,show(0:Int).toNat=0 from rfl,List.drop_zero] at k ⊢;obtain⟨xs,bss,ho,hl,hfl,he⟩:=A.row;have hrb:=A.hrb
  have hsub:∀ c∈(bss.take j).flatten,c∈ib:=fun c hc=>by
    obtain⟨y,hy,hcy⟩:=List.mem_flatten.1 hc;rw[← hfl];exact List.mem_flatten.2 ⟨y,List.mem_of_mem_take hy,hcy⟩
  have hlen:(l.take j).length=j:=by simp;omega
  have hmul:j*sz≤l.length*sz:=Nat.mul_le_mul_right _ hjl'
  rcases ho.2 with ⟨rfl,h2⟩ | ⟨g2,cap,cur,rfl,hg,hcur,h4,h5,h6,h7⟩
  · have hj0:j=0:=by omega
    subst hj0;have hr:=xJy (P:=P) (ad:=none) (len:=0) (cap:=0) (i:=0) (j:=0) ht hsz (Nat.le_refl _) (Nat.le_refl _) none (some (.int .i64 ((0:Nat):Int))) (.inr ⟨rfl,rfl⟩) (.inl rfl) w;refine qX (v:=.slice none 0 0) F hc ?_ (fun a' F'=>k a' _ [] ?_ (List.nil_sublist _) F')
    · unfold execOp
      simp [F.ev hx,F.ev hhi] at hr ⊢
      simp [hr]
    · have:=Row.nil sz R E B w
      rw[hrb]
      simpa [sW,Value.ownBlock] using this
  · have hr:=xJy (P:=P) (ad:=some ⟨g2,0,none⟩) (len:=l.length) (cap:=cap) (i:=0) (j:=j) ht hsz (Nat.zero_le _) (by omega) none (some (.int .i64 (j:Int))) (.inr ⟨rfl,rfl⟩) (.inl rfl) w
    have hv:(if cap=0 then some (⟨g2,0,none⟩:Addr) else (some (⟨g2,0,none⟩:Addr)).map (·.add (0*sz)))=some ⟨g2,0,none⟩:=by
      split
      · rfl
      · rw[Nat.zero_mul,Option.map_some,iF]
    rw[hv,Nat.sub_zero,Nat.sub_zero] at hr;refine qX (v:=.slice (some ⟨g2,0,none⟩) j cap) F hc ?_ (fun a' F'=>k a' _ (bss.take j).flatten ⟨⟨xs.take (j*sz),bss.take j,⟨by rw[List.length_take,ho.1,hlen];omega,.inr ⟨g2,cap,cur,by rw[hlen],hg,hcur,by rw[hlen];omega,h5,h6,?_⟩⟩,by simp;omega,rfl,fun q y bi hy hbi=>?_⟩,?_,fun c hc=>A.mem c (hsub c hc),fun c hc hm=>A.dj c hc (hsub c hm)⟩ (by rw[← hfl];have e9:=congrArg List.flatten (List.take_append_drop j bss);rw[List.flatten_append] at e9;rw[← e9];exact List.sublist_append_left _ _) F')
    · unfold execOp
      simp [F.ev hx,F.ev hhi,hr]
    · rw[hlen,← h7,List.take_take,Nat.min_eq_left hmul]
    · rw[List.getElem?_take] at hy hbi
      split at hy
      · rename_i hq
        rw[if_pos hq] at hbi;have h8:=he q y bi hy hbi;have hm9:(q+1)*sz≤j*sz:=Nat.mul_le_mul_right _ hq;rw[Nat.add_mul] at hm9;refine hR.fr _ _ _ _ y bi h8 (fun _ _=>rfl) (fun m hm=>?_);rw[List.getElem?_take,if_pos (by omega)]
      · cases hy
    · rw[hrb]
      simp [sW,Value.ownBlock]
end
theorem xIc {v:Value} (h:v.oneCell'=true):v.cells = #[v]:=by cases v<;>first | rfl | simp [Value.oneCell'] at h
def xPr (cells:Array Value):List (Nat×List Value)→Array Value
  | []=>cells
  | (o,vs)::r=>xPr (vs.zipIdx.foldl (fun cs x=>cs.setIfInBounds (o+x.2) x.1) cells) r
def xTw (places:Array (Nat×Nat)) (n:Nat):List Nat→List Value→List (Nat×List Value)→Prop
  | [],[],[]=>True
  | i::is,v::vs,(o,c)::qs=>v.cells=c.toArray∧places[i]?=some (o,c.length)∧o+c.length≤n∧xTw places n is vs qs
  | _,_,_=>False
theorem xHr (o:Nat):∀ (vs:List (Value×Nat)) (cs:Array Value),(vs.foldl (fun cs x=>cs.setIfInBounds (o+x.2) x.1) cs).size=cs.size
  | [],_=>rfl
  | v::r,cs=>by rw[List.foldl_cons,xHr o r];simp
theorem xTa {places:Array (Nat×Nat)} {n:Nat}:∀ {is:List Nat} {vs:List Value} {qs:List (Nat×List Value)} {cs:Array Value},cs.size=n→xTw places n is vs qs→Instr.fill (places[·]?) cs (is.zip vs)=some (xPr cs qs)
  | [],[],[],_,_,_=>rfl
  | i::is,v::vs,(o,c)::qs,cs,hn,h=>by
    obtain⟨h1,h2,h3,h4⟩:=h;rw[List.zip_cons_cons]
    unfold Instr.fill xPr
    simp only[h2,h1,List.size_toArray];rw[if_neg (by simp;omega)]
    have e:c.toArray.zipIdx.foldl (fun cs (x:Value×Nat)=>cs.setIfInBounds (o+x.2) x.1) cs=c.zipIdx.foldl (fun cs x=>cs.setIfInBounds (o+x.2) x.1) cs:=by
      simp
    rw[e];exact xTa (by rw[xHr];exact hn) h4
section
variable {P:Program} {ops:Array Oper} {Q:Exit→Act→World→Prop} {a:Act} {w:World} {n:Nat} {L:List (Nat×Value)} {rest:List Oper} {d:Nat} {ty:TypeId} {pos:String} {af:Array Edge} {g:Option (Nat×Bool)}
theorem xTo {t:TypeId} {fs:Array Field} {z:Value} {places:Array (Nat×Nat)} {parts:Array (Nat×Operand)} {ps:List (Nat×Operand)} {idx:List Nat} {xs:List Operand} {vs:List Value} {qs:List (Nat×List Value)} {cs:Array Value} (ht:P.underlying t=some (.struct fs)) (hz:∀ w,(zeroValue t).run P w= .ok z w)
    (hpl:∀ w,(fs.mapM fun f=>do pure (f.offset,← sizeOf f.type):Sem (Array (Nat×Nat))).run P w= .ok places w) (F:Sk a n L) (hc:qH ops n L g d=true) (hp:parts.toList=ps) (h1:ps.map Prod.fst=idx) (h2:ps.map Prod.snd=xs) (hx:evs L xs=some vs)
    (hf:xTw places z.cells.size idx vs qs) (hcs:xPr z.cells qs=cs) (k:∀ a',Sk a' n ((d,.agg cs)::L)→wpList P ops Q rest a' w):wpList P ops Q (⟨some d,.build t parts,ty,pos,af,g⟩::rest) a w:=by
  refine qX F hc ?_ k;have hv:=F.evs hx
  have hparts:(parts.map fun(i,x)=>(i,a.eval x)).toList=idx.zip vs:=by
    rw[Array.toList_map,hp,← h1,← hv,← h2];exact(xBw a.eval ps).symm
  have hfl:=xTa (cs:=z.cells) rfl hf;rw[hcs] at hfl
  unfold execOp
  simp only[Instr.build,Sem.run_bind,hz,Result.andThen_ok,run_underlying ht];simp only[Sem.run_bind,hpl,Result.andThen_ok];rw[hparts,hfl]
  rfl
end
abbrev KO (X:List Nat):World→World→Prop:=fun w w'=>Only X w w'
instance (X:List Nat):KOk (KO X):=⟨fun w=>Only.refl _ _,fun h k=>h.trans k⟩
theorem KO.below {X:List Nat} {B:Nat} {w w':World} (h:Below B w w') (hB:w.heap.size≤B):KO X w w':=⟨h.os,h.tape,h.output,h.size,fun k hk _=>h.block k (Nat.lt_of_lt_of_le hk hB)⟩
section
variable {P:Program} {ops:Array Oper} {C:World→Prop} {K:Act→Prop} {a:Act} {w:World} {n:Nat} {L:List (Nat×Value)} {d:Nat} {ty:TypeId} {pos:String} {af:Array Edge} {g:Option (Nat×Bool)}
end
end Go.Proofs.YtlommebgedmjdaaGreatDoor
