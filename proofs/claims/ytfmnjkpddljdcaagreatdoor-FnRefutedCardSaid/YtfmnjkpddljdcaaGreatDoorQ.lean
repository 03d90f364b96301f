import Derived.Test.YtfmnjkpddljdcaaGreatDoorK
import Derived.Lib.SliceRun
namespace Go.Proofs.YtfmnjkpddljdcaaGreatDoor
set_option linter.unusedVariables false
set_option linter.unusedSimpArgs false
open Go.RowKit
def Frs (X:List Nat) (n:Nat) (bs:List Nat):Prop:=∀ c∈bs,c∈X∨n≤c
theorem Frs.nil (X:List Nat) (n:Nat):Frs X n []:=fun _ h=>nomatch h
theorem Frs.mem {X:List Nat} {n:Nat} {bs:List Nat} (h:∀ c∈bs,c∈X):Frs X n bs:=fun c hc=>.inl (h c hc)
theorem Frs.trans {X Y bs:List Nat} {n m:Nat} (h:Frs Y m bs) (k:Frs X n Y) (hm:n≤m):Frs X n bs:=fun c hc=>(h c hc).elim (k c) (fun h=>.inr (Nat.le_trans hm h))
theorem Dj.one {a b:Nat} (h:a≠b):Dj [a] [b]:=fun c hc hb=>by rw[List.mem_singleton] at hc hb;exact h (hc.symm.trans hb)
def xKf (X:List Nat) (Φ:Value→World→Prop) (w:World) (e:Ending) (w':World):Prop:=∃ v,e= .returned v∧Only X w w'∧Φ v w'
section
variable {P:Program} {ops:Array Oper} {Q:Exit→Act→World→Prop} {a:Act} {w:World} {n:Nat} {L:List (Nat×Value)} {rest:List Oper} {d:Nat} {ty:TypeId} {pos:String} {af:Array Edge} {g:Option (Nat×Bool)}
theorem xIb {f:FuncId} {xs:List Operand} {at':Array TypeId} {vs:List Value} {X:List Nat} {Φ:Value→World→Prop} (F:Sk a n L) (hc:aV ops n L g d=true) (hf:∀ args w,(callFunc f args).run P w= .ok (.enter f args) w)
    (e:evs L xs=some vs) (cl:Calls P f vs.toArray w (xKf X Φ w))
    (k:∀ a' v w',Only X w w'→Φ v w'→Sk a' n ((d,v)::L)→wpList P ops Q rest a' w') :
    wpList P ops Q (⟨some d,.call ⟨.value (.func f),xs.toArray,at'⟩,ty,pos,af,g⟩::rest) a w:=
  xDi (Φ:=fun v w'=>Only X w w'∧Φ v w') F hc hf e cl (fun e w' ⟨v,he,hb,hφ⟩=>⟨v,he,hb,hφ⟩) (fun a' v w' h F'=>k a' v w' h.1 h.2 F')
end
def RTl (v:Value) (n i:Nat) (p:Value):Prop:=∃ ad c,v= .slice ad n c∧i≤n∧n≤c∧p= .slice (if c=i then ad else ad.map (·.add i)) (n - i) (c - i)
section
variable {P:Program} {ops:Array Oper} {Q:Exit→Act→World→Prop} {a:Act} {w:World} {n:Nat} {L:List (Nat×Value)} {rest:List Oper} {d:Nat} {ty:TypeId} {pos:String} {af:Array Edge} {g:Option (Nat×Bool)}
theorem Row.val {α:Type} {sz:Nat} {R:ER α} {E B:Nat} {w:World} {v:Value} {l:List α} {rb ib:List Nat} (h:Row sz R E B w v l rb ib):∃ ad c,v= .slice ad l.length c∧l.length≤c:=by
  obtain⟨xs,bss,ho,_⟩:=h.row
  rcases ho.2 with ⟨rfl,hn⟩ | ⟨g,cap,cur,rfl,_,_,h4,_⟩
  · exact⟨none,0,by rw[hn],by omega⟩
  · exact⟨_,cap,rfl,h4⟩
theorem xSx {α:Type} {R:ER α} {x lo:Operand} {t E B:Nat} {v:Value} {l r:List α} {rb ib:List Nat} {i:Int} (ht:P.underlying t=some (.slice E)) (hsz:∀ w,(sizeOf E).run P w= .ok 1 w)
    (F:Sk a n L) (hc:aV ops n L g d=true) (hx:ev L x=some v) (hlo:ev L lo=some (.int .i64 i)) (A:Row 1 R E B w v l rb ib) (hs:sl l i (l.length:Int)=some r)
    (k:∀ a' p,RTl v l.length i.toNat p→Sk a' n ((d,p)::L)→wpList P ops Q rest a' w):wpList P ops Q (⟨some d,.slice t x (some lo) none none,ty,pos,af,g⟩::rest) a w:=by
  obtain⟨h0,hij,_,rfl⟩:=xHg hs;obtain⟨i,rfl⟩:∃ m:Nat,i=m:=⟨i.toNat,by omega⟩;obtain⟨ad,c,rfl,hcap⟩:=A.val;have hr:=xCj (P:=P) (ad:=ad) (len:=l.length) (cap:=c) (i:=i) (j:=l.length) ht hsz (by omega) hcap (some (.int .i64 (i:Int))) none (.inl rfl) (.inr ⟨rfl,rfl⟩) w;rw[Nat.mul_one] at hr;refine kJ F hc ?_ (fun a' F'=>k a' _ ⟨ad,c,rfl,by omega,hcap,rfl⟩ (by simpa using F'))
  unfold execOp
  simp [F.ev hx,F.ev hlo,hr]
theorem xLz {op:Go.Op} (F:Sk a n L) (hc:gok ops L g=true) {v:Value} {w':World} (hr:(execOp a.eval ⟨none,op,ty,pos,af,g⟩).run P w= .ok (.value v) w')
    (k:wpList P ops Q rest a w'):wpList P ops Q (⟨none,op,ty,pos,af,g⟩::rest) a w:=by
  unfold wpList
  rw[if_pos (iV F (o:=⟨none,op,ty,pos,af,g⟩) hc)];refine .inl ?_
  unfold Oper.wp
  rw[hr];exact k
theorem xOr {x:Operand} {t E B:Nat} {v p:Value} {l:List Int} {rb:List Nat} {i:Nat} (ht:P.underlying t=some (.slice E)) (hv:∀ w,(zeroValue E).run P w= .ok (.int .i64 0) w)
    (F:Sk a n L) (hc:gok ops L g=true) (hx:ev L x=some p) (A:Row 1 xM E B w v l rb []) (T:RTl v l.length i p)
    (k:∀ w',Row 1 xM E B w' v (l.take i++List.replicate (l.length - i) 0) rb []→Only rb w w'→(∀ X,kD X w→Dj X rb→Dj X rb)→wpList P ops Q rest a w') :
    wpList P ops Q (⟨none,.call ⟨.builtin .clear,#[x],#[t]⟩,ty,pos,af,g⟩::rest) a w:=by
  obtain⟨ad,c,rfl,hi,hcap,rfl⟩:=T
  have hrun:∀ (u:Value) w',(Builtin.clear_ #[t] ty #[u]).run P w= .ok (.tuple #[]) w'→ev L x=some u→(execOp a.eval ⟨none,.call ⟨.builtin .clear,#[x],#[t]⟩,ty,pos,af,g⟩).run P w= .ok (.value (.tuple #[])) w':=by
    intro u w' h e;rw[BigFrame.execOp_builtin,BigFrame.builtin_clear];simp only[List.map_toArray,List.map_cons,List.map_nil,F.ev e]
    simp [h]
  by_cases hin:i=l.length
  · subst hin
    refine xLz (w':=w) F hc (hrun _ _ ?_ hx) (k w (by simpa using A) (Only.refl _ _) (fun _ _ h=>h));rw[Nat.sub_self]
    split<;>cases ad<;>simp [Builtin.clear_,run_underlying ht]
  · obtain⟨xs,bss,ho,hl,hfl,he⟩:=A.row
    have hrb:=A.hrb
    rcases ho.2 with ⟨h1,h2⟩ | ⟨g2,cap,cur,h1,hg,hcur,h4,h5,h6,h7⟩
    · omega
    · simp only[Value.slice.injEq] at h1
      obtain⟨rfl,_,rfl⟩:=h1
      have hci:c≠i:=by omega
      rw[if_neg hci] at hx
      have hadd:(⟨g2,0,none⟩:Addr).add i=⟨g2,i,none⟩:=by rw[dD,Nat.zero_add]
      simp only[Option.map_some,hadd] at hx;have hK:gM w g2 cur E:=hcur;rw[Nat.mul_one] at h6 h7;obtain⟨cur',q1,q2,q3,q4⟩:∃ cur':Array Value,_:=rQ g2 E (0,0) (List.replicate (l.length - i) (Value.int IntKind.i64 0)) i w cur hcur (by simp;omega)
      have hxl:xs.length=l.length:=by have:=ho.1;omega
      refine xLz (w':=w.setCells g2 i (List.replicate (l.length - i) (Value.int IntKind.i64 0))) F hc (hrun _ _ (Lib.run_clear_slice w t E ty (Value.int IntKind.i64 0) ht hv rfl rfl g2 i (l.length - i) (c - i) (by omega) (fun j hj=>?_) (fun j hj=>?_)) hx) (k _ ?_ ?_ (fun _ _ h=>h))
      · rw[hK.cell,Array.getElem?_eq_getElem (by omega)];rfl
      · exact hK.frozen _
      · have hlen:(l.take i++List.replicate (l.length - i) (0:Int)).length=l.length:=by simp;omega
        have hget:∀ (j:Nat) (y:Int),(l.take i++List.replicate (l.length - i) (0:Int))[j]?=some y→cur'[j]?=some (Value.int IntKind.i64 y)∧xS y:=by
          intro j y hy;rw[List.getElem?_append] at hy
          split at hy
          · rename_i hji
            rw[List.length_take] at hji;rw[List.getElem?_take,if_pos (by omega)] at hy
            have hj2:j<l.length:=by omega
            have h8:=he j y [] hy (by
              have:j<bss.length:=by omega
              rw[List.getElem?_eq_getElem this];have h9:=List.flatten_eq_nil_iff.1 hfl _ (List.getElem_mem this)
              rw[h9])
            refine⟨?_,h8.2.1⟩;rw[q4 j (Or.inl (by omega))];have h10:=h8.1;simp only[Nat.mul_one,Nat.add_zero] at h10;rw[← h7,List.getElem?_take,if_pos (by omega)] at h10
            simpa using h10
          · rename_i hji
            rw[List.length_take] at hji;have hy0:=List.mem_of_getElem? hy;have:=List.eq_of_mem_replicate hy0;subst this;have hj2:=(List.getElem?_eq_some_iff.1 hy).1;simp only[List.length_replicate,List.length_take] at hj2;refine⟨?_,by decide⟩;have h11:=q3 (j - i) (by simp;omega);rw[show i+(j - i)=j by omega] at h11;rw[h11,List.getElem?_replicate,if_pos (by omega)]
        refine⟨⟨(l.take i++List.replicate (l.length - i) (0:Int)).map (fun y=>Value.int .i64 y),List.replicate l.length [],⟨by rw[List.length_map,Nat.mul_one],.inr ⟨g2,c,cur',by rw[hlen],hg,q1,by rw[hlen];exact h4,h5,by rw[q2,Nat.mul_one];exact h6,?_⟩⟩,by rw[List.length_replicate,hlen],by simp,fun j y bi hy hbi=>?_⟩,hrb,kD.nil _,Dj.nil _⟩
        · refine List.ext_getElem? (fun j=>?_)
          rw[List.getElem?_take,List.getElem?_map,hlen,Nat.mul_one]
          split
          · rename_i hj
            have:j<(l.take i++List.replicate (l.length - i) (0:Int)).length:=by omega
            have h12:=hget j _ (List.getElem?_eq_getElem this);rw[Array.getElem?_toList,h12.1,List.getElem?_eq_getElem this]
            rfl
          · rename_i hj
            rw[List.getElem?_eq_none (by omega)]
            rfl
        · have hb:=List.eq_of_mem_replicate (List.mem_of_getElem? hbi)
          obtain⟨h13,h14⟩:=hget j y hy;refine⟨?_,h14,hb⟩
          show(List.map (fun y=>Value.int IntKind.i64 y) _)[j*1+0]?=_
          rw[Nat.mul_one,Nat.add_zero,List.getElem?_map,hy]
          rfl
      · have:=xFi g2 i (List.replicate (l.length - i) (Value.int IntKind.i64 0)) w
        rw[hrb];exact this
theorem xLg {α:Type} {sz:Nat} {R:ER α} [hR:FrC sz R] {x hi:Operand} {t E B:Nat} {v:Value} {l r:List α} {rb ib:List Nat} {j:Int} (ht:P.underlying t=some (.slice E)) (hsz:∀ w,(sizeOf E).run P w= .ok sz w)
    (F:Sk a n L) (hc:aV ops n L g d=true) (hx:ev L x=some v) (hhi:ev L hi=some (.int .i64 j)) (A:Row sz R E B w v l rb ib) (hs:sl l 0 j=some r)
    (k:∀ a' v' ib',Row sz R E B w v' r rb ib'→List.Sublist ib' ib→Sk a' n ((d,v')::L)→wpList P ops Q rest a' w):wpList P ops Q (⟨some d,.slice t x none (some hi) none,ty,pos,af,g⟩::rest) a w:=by
  obtain⟨_,h0,hjl,rfl⟩:=xHg hs;obtain⟨j,rfl⟩:∃ m:Nat,j=m:=⟨j.toNat,by omega⟩
  have hjl':j≤l.length:=by omega
  simp only[Int.toNat_natCast,show(0:Int).toNat=0 from rfl,List.drop_zero] at k ⊢;obtain⟨xs,bss,ho,hl,hfl,he⟩:=A.row;have hrb:=A.hrb
  have hsub:∀ c∈(bss.take j).flatten,c∈ib:=fun c hc=>by
    obtain⟨y,hy,hcy⟩:=List.mem_flatten.1 hc;rw[← hfl];exact List.mem_flatten.2 ⟨y,List.mem_of_mem_take hy,hcy⟩
  have hlen:(l.take j).length=j:=by simp;omega
  have hmul:j*sz≤l.length*sz:=Nat.mul_le_mul_right _ hjl'
  rcases ho.2 with ⟨rfl,h2⟩ | ⟨g2,cap,cur,rfl,hg,hcur,h4,h5,h6,h7⟩
  · have hj0:j=0:=by omega
    subst hj0;have hr:=xCj (P:=P) (ad:=none) (len:=0) (cap:=0) (i:=0) (j:=0) ht hsz (Nat.le_refl _) (Nat.le_refl _) none (some (.int .i64 ((0:Nat):Int))) (.inr ⟨rfl,rfl⟩) (.inl rfl) w;refine kJ (v:=.slice none 0 0) F hc ?_ (fun a' F'=>k a' _ [] ?_ (List.nil_sublist _) F')
    · unfold execOp
      simp [F.ev hx,F.ev hhi] at hr ⊢
      simp [hr]
    · have:=Row.nil sz R E B w
      rw[hrb]
      simpa [tC,Value.ownBlock] using this
  · have hr:=xCj (P:=P) (ad:=some ⟨g2,0,none⟩) (len:=l.length) (cap:=cap) (i:=0) (j:=j) ht hsz (Nat.zero_le _) (by omega) none (some (.int .i64 (j:Int))) (.inr ⟨rfl,rfl⟩) (.inl rfl) w
    have hv:(if cap=0 then some (⟨g2,0,none⟩:Addr) else (some (⟨g2,0,none⟩:Addr)).map (·.add (0*sz)))=some ⟨g2,0,none⟩:=by
      split
      · rfl
      · rw[Nat.zero_mul,Option.map_some,dD]
    rw[hv,Nat.sub_zero,Nat.sub_zero] at hr;refine kJ (v:=.slice (some ⟨g2,0,none⟩) j cap) F hc ?_ (fun a' F'=>k a' _ (bss.take j).flatten ⟨⟨xs.take (j*sz),bss.take j,⟨by rw[List.length_take,ho.1,hlen];omega,.inr ⟨g2,cap,cur,by rw[hlen],hg,hcur,by rw[hlen];omega,h5,h6,?_⟩⟩,by simp;omega,rfl,fun q y bi hy hbi=>?_⟩,?_,fun c hc=>A.mem c (hsub c hc),fun c hc hm=>A.dj c hc (hsub c hm)⟩ (by rw[← hfl];have e9:=congrArg List.flatten (List.take_append_drop j bss);rw[List.flatten_append] at e9;rw[← e9];exact List.sublist_append_left _ _) F')
    · unfold execOp
      simp [F.ev hx,F.ev hhi,hr]
    · rw[hlen,← h7,List.take_take,Nat.min_eq_left hmul]
    · rw[List.getElem?_take] at hy hbi
      split at hy
      · rename_i hq
        rw[if_pos hq] at hbi;have h8:=he q y bi hy hbi;have hm9:(q+1)*sz≤j*sz:=Nat.mul_le_mul_right _ hq;rw[Nat.add_mul] at hm9;refine hR.fr _ _ _ _ y bi h8 (fun _ _=>rfl) (fun m hm=>?_);rw[List.getElem?_take,if_pos (by omega)]
      · cases hy
    · rw[hrb]
      simp [tC,Value.ownBlock]
end
theorem jM {v:Value} (h:v.oneCell'=true):v.cells = #[v]:=by cases v<;>first | rfl | simp [Value.oneCell'] at h
def xLq (cells:Array Value):List (Nat×List Value)→Array Value
  | []=>cells
  | (o,vs)::r=>xLq (vs.zipIdx.foldl (fun cs x=>cs.setIfInBounds (o+x.2) x.1) cells) r
def xQw (places:Array (Nat×Nat)) (n:Nat):List Nat→List Value→List (Nat×List Value)→Prop
  | [],[],[]=>True
  | i::is,v::vs,(o,c)::qs=>v.cells=c.toArray∧places[i]?=some (o,c.length)∧o+c.length≤n∧xQw places n is vs qs
  | _,_,_=>False
theorem xFu (o:Nat):∀ (vs:List (Value×Nat)) (cs:Array Value),(vs.foldl (fun cs x=>cs.setIfInBounds (o+x.2) x.1) cs).size=cs.size
  | [],_=>rfl
  | v::r,cs=>by rw[List.foldl_cons,xFu o r];simp
theorem xOl {places:Array (Nat×Nat)} {n:Nat}:∀ {is:List Nat} {vs:List Value} {qs:List (Nat×List Value)} {cs:Array Value},cs.size=n→xQw places n is vs qs→Instr.fill (places[·]?) cs (is.zip vs)=some (xLq cs qs)
  | [],[],[],_,_,_=>rfl
  | i::is,v::vs,(o,c)::qs,cs,hn,h=>by
    obtain⟨h1,h2,h3,h4⟩:=h;rw[List.zip_cons_cons]
    unfold Instr.fill xLq
    simp only[h2,h1,List.size_toArray];rw[if_neg (by simp;omega)]
    have e:c.toArray.zipIdx.foldl (fun cs (x:Value×Nat)=>cs.setIfInBounds (o+x.2) x.1) cs=c.zipIdx.foldl (fun cs x=>cs.setIfInBounds (o+x.2) x.1) cs:=by
      simp
    rw[e];exact xOl (by rw[xFu];exact hn) h4
section
variable {P:Program} {ops:Array Oper} {Q:Exit→Act→World→Prop} {a:Act} {w:World} {n:Nat} {L:List (Nat×Value)} {rest:List Oper} {d:Nat} {ty:TypeId} {pos:String} {af:Array Edge} {g:Option (Nat×Bool)}
theorem uA {t:TypeId} {fs:Array Field} {z:Value} {places:Array (Nat×Nat)} {parts:Array (Nat×Operand)} {ps:List (Nat×Operand)} {idx:List Nat} {xs:List Operand} {vs:List Value} {qs:List (Nat×List Value)} {cs:Array Value} (ht:P.underlying t=some (.struct fs)) (hz:∀ w,(zeroValue t).run P w= .ok z w)
    (hpl:∀ w,(fs.mapM fun f=>do pure (f.offset,← sizeOf f.type):Sem (Array (Nat×Nat))).run P w= .ok places w) (F:Sk a n L) (hc:aV ops n L g d=true) (hp:parts.toList=ps) (h1:ps.map Prod.fst=idx) (h2:ps.map Prod.snd=xs) (hx:evs L xs=some vs)
    (hf:xQw places z.cells.size idx vs qs) (hcs:xLq z.cells qs=cs) (k:∀ a',Sk a' n ((d,.agg cs)::L)→wpList P ops Q rest a' w):wpList P ops Q (⟨some d,.build t parts,ty,pos,af,g⟩::rest) a w:=by
  refine kJ F hc ?_ k;have hv:=F.evs hx
  have hparts:(parts.map fun(i,x)=>(i,a.eval x)).toList=idx.zip vs:=by
    rw[Array.toList_map,hp,← h1,← hv,← h2];exact(xAu a.eval ps).symm
  have hfl:=xOl (cs:=z.cells) rfl hf;rw[hcs] at hfl
  unfold execOp
  simp only[Instr.build,Sem.run_bind,hz,Result.andThen_ok,run_underlying ht];simp only[Sem.run_bind,hpl,Result.andThen_ok];rw[hparts,hfl]
  rfl
end
abbrev KO (X:List Nat):World→World→Prop:=fun w w'=>Only X w w'
instance (X:List Nat):KOk (KO X):=⟨fun w=>Only.refl _ _,fun h k=>h.trans k⟩
theorem KO.below {X:List Nat} {B:Nat} {w w':World} (h:Below B w w') (hB:w.heap.size≤B):KO X w w':=⟨h.os,h.tape,h.output,h.size,fun k hk _=>h.block k (Nat.lt_of_lt_of_le hk hB)⟩
section
variable {P:Program} {ops:Array Oper} {C:World→Prop} {K:Act→Prop} {a:Act} {w:World} {n:Nat} {L:List (Nat×Value)} {d:Nat} {ty:TypeId} {pos:String} {af:Array Edge} {g:Option (Nat×Bool)}
end
end Go.Proofs.YtfmnjkpddljdcaaGreatDoor
