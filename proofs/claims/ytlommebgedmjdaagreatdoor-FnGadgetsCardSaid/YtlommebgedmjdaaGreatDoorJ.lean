import Derived.Test.YtlommebgedmjdaaGreatDoorI
namespace Go.Proofs.YtlommebgedmjdaaGreatDoor
set_option linter.unusedVariables false
set_option linter.unusedSimpArgs false
open Go.RowKit
def xKs (Φ:Value→World→Prop) (w:World) (e:Ending) (w':World):Prop:=∃ v,e= .returned v∧Below w.heap.size w w'∧Φ v w'
section
variable {P:Program} {ops:Array Oper} {Q:Exit→Act→World→Prop} {a:Act} {w:World} {n:Nat} {L:List (Nat×Value)} {rest:List Oper} {d:Nat} {ty:TypeId} {pos:String} {af:Array Edge} {g:Option (Nat×Bool)}
end
theorem _root_.Go.RowKit.Below.o {B:Nat} {rb:List Nat} {w0 w w':World} (h:Below B w0 w) (l:Only rb w w') (hr:∀ b∈rb,B≤b) (hs:B≤w.heap.size):Below B w0 w':=h.trans (l.below hs hr)
theorem Dj.r {x y z:List Nat} (h:Dj (x++y) z):Dj y z:=fun b hb=>h b (by simp [hb])
def tF (tmps:Array Value):ResultVar→Sem Value
  | .tmp t=>pure (tmps.getD t undef)
  | .cell a t=>do loadVar t (← asAddr (tmps.getD a undef))
section
variable {P:Program} {w:World} {L:List (Nat×Value)} {a:Act} {n:Nat} {fn:Func} {R:Ending→World→Prop}
theorem xMj (F:Sk a n L) {t:Nat} {v:Value} (h:nZ L t=some v):(tF a.tmps (.tmp t)).run P w= .ok v w:=by
  simp [tF,Array.getD_eq_getD_getElem?,F.g _ _ h]
theorem oCn (F:Sk a n L) {t b:Nat} {T T':TypeId} {arr:Array Value} (hag:∀ w,(isAgg T).run P w= .ok true w) (hsz:∀ w,(sizeOf T).run P w= .ok arr.size w) (h:nZ L t=some (.pointer (some ⟨b,0,none⟩))) (K:fI w b arr T'):(tF a.tmps (.cell t T)).run P w= .ok (.agg arr) w:=by
  have hl:=run_loadCells_list (P:=P) w ⟨b,0,none⟩ arr.toList (fun j v hj=>by rw[iF,Nat.zero_add,K.cell];simpa using hj);rw[Array.length_toList] at hl
  simp [tF,Array.getD_eq_getD_getElem?,F.g _ _ h,asAddr,loadVar,hag,hsz,hl]
theorem yD:results fn a.tmps=(do let vs ← fn.results.mapM (tF a.tmps);pure (if h:vs.size=1 then vs[0] else .tuple vs)):=rfl
theorem tB (F:Sk a n L) {r1:ResultVar} {v1:Value} (hr:fn.results = #[r1]) (h1:(tF a.tmps r1).run P w= .ok v1 w) (h:R (.returned v1) w):bodyPost P fn R .ret a w:=
  bodyPost_ret (v:=v1) (by rw[yD,hr];simp [h1]) F.d h
theorem xUc (F:Sk a n L) {r1 r2:ResultVar} {v1 v2:Value} (hr:fn.results = #[r1,r2]) (h1:(tF a.tmps r1).run P w= .ok v1 w) (h2:(tF a.tmps r2).run P w= .ok v2 w) (h:R (.returned (.tuple #[v1,v2])) w):bodyPost P fn R .ret a w:=
  bodyPost_ret (v:=.tuple #[v1,v2]) (by rw[yD,hr];simp [h1,h2]) F.d h
theorem xTn (F:Sk a n L) {r1 r2 r3:ResultVar} {v1 v2 v3:Value} (hr:fn.results = #[r1,r2,r3]) (h1:(tF a.tmps r1).run P w= .ok v1 w) (h2:(tF a.tmps r2).run P w= .ok v2 w) (h3:(tF a.tmps r3).run P w= .ok v3 w) (h:R (.returned (.tuple #[v1,v2,v3])) w):bodyPost P fn R .ret a w:=
  bodyPost_ret (v:=.tuple #[v1,v2,v3]) (by rw[yD,hr];simp [h1,h2,h3]) F.d h
end
theorem eW {k g:Nat} {b:Int} (h:k+(g+1)=b.toNat):decide ((k:Int)<b)=true:=by simp;omega
theorem iL {k:Nat} {b:Int} (h:k+0=b.toNat):decide ((k:Int)<b)=false:=by simp;omega
theorem xIb {k g:Nat} {b lo:Int} (h:k+(g+1)=(b - lo).toNat):decide (lo+(k:Int)<b)=true:=by simp;omega
theorem xLf {k:Nat} {b lo:Int} (h:k+0=(b - lo).toNat):decide (lo+(k:Int)<b)=false:=by simp;omega
theorem xBl {k g:Nat} {b:Int} (h:k+(g+1)=b.toNat) (hb:xH b):xH (k:Int):=⟨by omega,by have:=hb.2;omega⟩
theorem mB {k g:Nat} {b:Int} (h:k+(g+1)=b.toNat) (hb:xH b):xH ((k+1:Nat):Int):=⟨by omega,by have:=hb.2;omega⟩
theorem oBk {k g:Nat} {b lo:Int} (h:k+(g+1)=(b - lo).toNat) (hl:xH lo) (hb:xH b):xH (lo+(k:Int)):=⟨by have:=hl.1;omega,by have:=hb.2;omega⟩
theorem xRm {k g:Nat} {b lo:Int} (h:k+(g+1)=(b - lo).toNat) (hl:xH lo) (hb:xH b):xH (lo+((k+1:Nat):Int)):=⟨by have:=hl.1;omega,by have:=hb.2;omega⟩
theorem xAr {α:Type} {l:List α} {i:Int} {x:α} (h:ix l i=some x):i.toNat<l.length:=(List.getElem?_eq_some_iff.1 (xEf h).2).1
theorem xRl {α:Type} {sz:Nat} {R:ER α} {w:World} {v:Value} {l:List α} {ib:List Nat} (h:Src sz R w v l ib) (hR:∀ w f x bs,R w f x bs→bs=[]):ib=[]:=by
  obtain⟨_,h⟩:=h
  rcases h with ⟨_,_,h⟩ | ⟨_,_,_,css,_,_,_,hl,hf,he⟩
  · exact h
  · have:∀ bi∈css,bi=[]:=fun bi hb=>by
      obtain⟨i,hi,rfl⟩:=List.getElem_of_mem hb;exact hR _ _ _ _ (he i _ _ (List.getElem?_eq_getElem (by rw[← hl];exact hi)) (List.getElem?_eq_getElem hi))
    rw[← hf,List.flatten_eq_nil_iff];exact this
section
variable {P:Program} {ops:Array Oper} {Q:Exit→Act→World→Prop} {C:World→Prop} {K:Act→Prop} {a:Act} {w:World} {n:Nat} {L:List (Nat×Value)} {rest:List Oper} {d:Nat} {dd:Option Tmp} {ty:TypeId} {pos:String} {af:Array Edge} {g:Option (Nat×Bool)}
theorem oAa {x y:Operand} {t t':TypeId} {k:Nat} {lo:Int} (F:Sk a n L) (hc:qH ops n L g d=true) (e:ev L x=some (.int .i64 (lo+(k:Int)))) (e':ev L y=some (.int .i64 1)) (hi:xH (lo+((k+1:Nat):Int))) (kk:∀ a',Sk a' n ((d,.int .i64 (lo+((k+1:Nat):Int)))::L)→wpList P ops Q rest a' w) :
    wpList P ops Q (⟨some d,.binOp .add t x y t',ty,pos,af,g⟩::rest) a w:=by
  have h:lo+((k+1:Nat):Int)=lo+(k:Int)+1:=by omega
  rw[h] at hi kk;exact xUe F hc e e' (oCo hi) kk
theorem xJy {t:TypeId} {e sz:Nat} {ad:Option Addr} {len cap i j:Nat} (ht:P.underlying t=some (.slice e)) (hsz:∀ w,(sizeOf e).run P w= .ok sz w) (hij:i≤j) (hj:j≤cap) (lo hi:Option Value) (hlo:lo=some (.int .i64 i)∨lo=none∧i=0) (hhi:hi=some (.int .i64 j)∨hi=none∧j=len) (w:World) :
    (Instr.sliceAt t (.slice ad len cap) lo hi none).run P w= .ok (.slice (if cap=i then ad else ad.map (·.add (i*sz))) (j - i) (cap - i)) w:=by
  have h1:(i:Int)≤j:=by omega
  have h2:(j:Int)≤cap:=by omega
  rcases hlo with rfl | ⟨rfl,rfl⟩<;>rcases hhi with rfl | ⟨rfl,rfl⟩ <;>
    simp [Instr.sliceAt,Instr.slice,run_underlying ht,Instr.sliceBounds,Instr.sliceBound,asIntOf,hsz,h1,h2,hij,hj]
theorem oBo {α:Type} {sz:Nat} {R:ER α} [hR:FrC sz R] {t e:TypeId} {v:Value} {l r:List α} {bs:List Nat} {i j:Int} (ht:P.underlying t=some (.slice e)) (hsz:∀ w,(sizeOf e).run P w= .ok sz w) (h:Rd (Sl sz R) w v l bs) (hs:sl l i j=some r) :
    ∃ v' bi,Rd (Sl sz R) w v' r bi∧(∀ c∈bi,c∈bs)∧∀ (lo hi:Option Value),(lo=some (.int .i64 i)∨lo=none∧i=0)→(hi=some (.int .i64 j)∨hi=none∧j=l.length)→∀ w',(Instr.sliceAt t v lo hi none).run P w'= .ok v' w':=by
  obtain⟨h0,hij,hjl,rfl⟩:=xPd hs;obtain⟨i,rfl⟩:∃ m:Nat,i=m:=⟨i.toNat,by omega⟩;obtain⟨j,rfl⟩:∃ m:Nat,j=m:=⟨j.toNat,by omega⟩;obtain⟨⟨ad,c,rfl,h1,h2,h3,h4⟩,hm⟩:=h;simp only[Int.toNat_natCast]
  have hlen:((l.take j).drop i).length=j - i:=by simp;omega
  have hrun:∀ (lo hi:Option Value),(lo=some (.int .i64 (i:Int))∨lo=none∧(i:Int)=0)→(hi=some (.int .i64 (j:Int))∨hi=none∧(j:Int)=l.length)→∀ w',(Instr.sliceAt t (.slice ad l.length c) lo hi none).run P w'= .ok (.slice (if c=i then ad else ad.map (·.add (i*sz))) (j - i) (c - i)) w':=fun lo hi hlo hhi w'=>
    xJy ht hsz (by omega) (by omega) lo hi (by rcases hlo with h | h;exact .inl h;exact .inr ⟨h.1,by omega⟩) (by rcases hhi with h | h;exact .inl h;exact .inr ⟨h.1,by omega⟩) w'
  by_cases hji:j=i
  · subst hji
    have hnil:(l.take j).drop j=[]:=List.length_eq_zero_iff.1 (by rw[hlen];omega);refine⟨_,[],?_,(fun c hc=>nomatch hc),hrun⟩;rw[hnil];refine⟨⟨_,c - j,by rw[Nat.sub_self];rfl,by simp,by omega,?_,.inl ⟨rfl,rfl⟩⟩,qM.nil w⟩;intro hn
    split at hn
    · omega
    · cases ad with
      | none=>have:=h3 rfl;omega
      | some x=>cases hn
  · rcases h4 with ⟨rfl,_⟩ | ⟨b,o,bss,rfl,rfl,he⟩
    · simp at hjl;omega
    · have hsub:∀ x∈((bss.take j).drop i).flatten,x∈bss.flatten:=fun x hx=>by
        obtain⟨y,hy,hxy⟩:=List.mem_flatten.1 hx;exact List.mem_flatten.2 ⟨y,List.mem_of_mem_take (List.mem_of_mem_drop hy),hxy⟩
      refine⟨_,b::((bss.take j).drop i).flatten,⟨⟨_,c - i,rfl,by rw[hlen];omega,by omega,?_,.inr ⟨b,o+i*sz,(bss.take j).drop i,?_,rfl,?_,fun q x bi hx hbi=>?_⟩⟩,fun x hx=>?_⟩,fun x hx=>?_,by rw[hlen];exact hrun⟩
      · intro hn;split at hn<;>cases hn
      · split
        · rename_i hci
          omega
        · simp [iF]
      · simp [he.1]
      · rw[List.getElem?_drop,List.getElem?_take] at hx hbi
        split at hx
        · rename_i hq
          rw[if_pos hq] at hbi;refine hR.fr _ _ _ _ _ _ (he.2 _ _ _ hx hbi) (fun _ _=>rfl) (fun p hp=>?_);rw[Nat.add_mul]
          congr 2
          omega
        · cases hx
      · rcases List.mem_cons.1 hx with rfl | hx
        · exact hm _ (by simp)
        · exact hm _ (by simp [hsub x hx])
      · rcases List.mem_cons.1 hx with rfl | hx
        · simp
        · simp [hsub x hx]
section
variable {α:Type} {sz:Nat} {R:ER α} [hR:FrC sz R] {t e:TypeId} {x lo hi:Operand} {v:Value} {l r:List α} {bs:List Nat} {i j:Int}
end
end
theorem on:∀ v∈([]:List Value),v.oneCell'=true:=fun v h=>nomatch h
theorem oc {v:Value} {r:List Value} (h:v.oneCell'=true) (k:∀ u∈r,u.oneCell'=true):∀ u∈v::r,u.oneCell'=true:=fun u hu=>by
  rcases List.mem_cons.1 hu with rfl | hu
  · exact h
  · exact k u hu
theorem _root_.Go.RowKit.Below.through' {w p q:World} (h:Below w.heap.size w p) (l:Below p.heap.size p q):Below w.heap.size w q:=h.trans (l.mono h.size)
section
variable {P:Program} {ops:Array Oper} {Q:Exit→Act→World→Prop} {a:Act} {w:World} {n:Nat} {L:List (Nat×Value)} {rest:List Oper} {d:Nat} {ty:TypeId} {pos:String} {af:Array Edge} {g:Option (Nat×Bool)}
theorem xWv {c:Operand} {f:FuncId} {lb:List Value} {xs:List Operand} {at':Array TypeId} {vs:List Value} {Φ:Value→World→Prop} {R:Ending→World→Prop} (F:Sk a n L) (hc:qH ops n L g d=true) (hcal:ev L c=some (.func (.func f) #[] lb.toArray)) (hf:∀ args w,(callFunc f args).run P w= .ok (.enter f args) w)
    (e:evs L xs=some vs) (C:Calls P f (vs++lb).toArray w R) (hR:∀ e w',R e w'→∃ v,e= .returned v∧Φ v w')
    (k:∀ a' v w',Φ v w'→Sk a' n ((d,v)::L)→wpList P ops Q rest a' w') :
    wpList P ops Q (⟨some d,.call ⟨.value c,xs.toArray,at'⟩,ty,pos,af,g⟩::rest) a w:=by
  unfold qH at hc
  rw[Bool.and_eq_true] at hc
  unfold wpList
  rw[if_pos (iW F (o:=⟨some d,.call ⟨.value c,xs.toArray,at'⟩,ty,pos,af,g⟩) hc.1)];refine .inl ?_
  unfold Oper.wp
  have hr:(execOp a.eval ⟨some d,.call ⟨.value c,xs.toArray,at'⟩,ty,pos,af,g⟩).run P w= .ok (.enter f (vs++lb).toArray) w:=by
    have h2:(xs.toArray.map a.eval)=vs.toArray:=by rw[List.map_toArray,F.evs e]
    unfold execOp
    simp only[resolve,h2,F.ev hcal,Deferred.ofValue,invoke,Sem.run_bind,Sem.run_pure,Result.andThen_ok,Array.empty_append,List.append_toArray,List.nil_append,hf]
  rw[hr]
  exact C.mono fun e w'' he=>by
    obtain⟨v,rfl,hv⟩:=hR e w'' he;exact k _ _ _ hv (F.put v hc.2)
end
end Go.Proofs.YtlommebgedmjdaaGreatDoor
