import Derived.Test.YtlommebgedmjdaaGreatDoorF
namespace Go.Proofs.YtlommebgedmjdaaGreatDoor
set_option linter.unusedVariables false
set_option linter.unusedSimpArgs false
open Go.RowKit
class FrC {α:Type} (sz:Nat) (R:ER α):Prop where
  fr:Fr sz R
  tot:∀ w f x bs,R w f x bs→∀ j,j<sz→∃ v:Value,f j=some v∧v.oneCell'=true
abbrev VR (α:Type):=World→Value→α→List Nat→Prop
class VF {α:Type} (V:VR α):Prop where
  same:∀ {w w' v x bs},V w v x bs→cR bs w w'→V w' v x bs
def Pt {α:Type} (sz:Nat) (R:ER α):VR α:=fun w v x bs=>∃ b o bi,v= .pointer (some ⟨b,o,none⟩)∧bs=b::bi∧R w (fun j=>w.cell? ⟨b,o+j,none⟩) x bi
instance {α:Type} {sz:Nat} {R:ER α} [h:FrC sz R]:VF (Sl sz R):=⟨fun h' hs=>h'.same h.fr hs⟩
instance {α:Type} {sz:Nat} {R:ER α} [h:FrC sz R]:VF (qG sz R):=⟨fun h' hs=>h'.same h.fr hs⟩
instance {α:Type} {sz:Nat} {R:ER α} [h:FrC sz R]:VF (Pt sz R):=⟨fun h' hs=>by
  obtain⟨b,o,bi,rfl,rfl,hr⟩:=h'
  exact⟨b,o,bi,rfl,rfl,h.fr _ _ _ _ _ _ hr (fun c hc=>hs c (by simp [hc])) (fun j _=>jR (hs b (by simp)) _)⟩⟩
theorem xSl {α:Type} {f:Nat→Option Value} {v:Value} (h:f 0=some v) (hv:v.oneCell'=true):∀ j,j<1→∃ v:Value,f j=some v∧v.oneCell'=true:=fun j hj=>⟨v,by rw[show j=0 by omega];exact h,hv⟩
theorem iF (b o k:Nat):(⟨b,o,none⟩:Addr).add k=⟨b,o+k,none⟩:=by unfold Addr.add;split<;>simp_all
instance:FrC 1 xG:=⟨xG.fr,fun w f x bs h=>xSl (α:=Nat) h.1 rfl⟩
instance {α:Type} {sz:Nat} {R:ER α} [h:FrC sz R]:FrC 1 (fG sz R):=⟨fG.fr h.fr,fun w f x bs h j hj=>by
  obtain rfl:j=0:=by omega
  obtain⟨v,h0,a,c,rfl,_⟩:=h
  exact⟨_,h0,rfl⟩⟩
def wU:ER Bool:=fun _ f x bs=>f 0=some (.bool x)∧bs=[]
instance:FrC 1 wU:=⟨fun _ _ _ _ _ _ h _ hg=>⟨(hg 0 (by omega)).trans h.1,h.2⟩,fun w f x bs h=>xSl (α:=Nat) h.1 rfl⟩
def rV:ER ByteArray:=fun _ f x bs=>f 0=some (.string x)∧x.size≤maxLen∧bs=[]
instance:FrC 1 rV:=⟨fun _ _ _ _ _ _ h _ hg=>⟨(hg 0 (by omega)).trans h.1,h.2⟩,fun w f x bs h=>xSl (α:=Nat) h.1 rfl⟩
def aW:ER UInt8:=fun _ f x bs=>f 0=some (.int .u8 x.toNat)∧bs=[]
instance:FrC 1 aW:=⟨fun _ _ _ _ _ _ h _ hg=>⟨(hg 0 (by omega)).trans h.1,h.2⟩,fun w f x bs h=>xSl (α:=Nat) h.1 rfl⟩
structure Rd {α:Type} (V:VR α) (w:World) (v:Value) (x:α) (bs:List Nat):Prop where
  r:V w v x bs
  m:qM bs w
def Dj (x y:List Nat):Prop:=∀ b∈x,b ∉ y
theorem Dj.symm {x y:List Nat} (h:Dj x y):Dj y x:=fun b hb hx=>h b hx hb
theorem Dj.nil (x:List Nat):Dj x []:=fun _ _ h=>nomatch h
theorem Dj.app' {x y z:List Nat} (h:Dj x z) (k:Dj y z):Dj (x++y) z:=fun b hb hm=>(List.mem_append.1 hb).elim (fun hx=>h b hx hm) (fun hy=>k b hy hm)
theorem Dj.sub {x y z:List Nat} (h:Dj x y) (hs:∀ b∈z,b∈x):Dj z y:=fun b hb=>h b (hs b hb)
theorem Sl.len64 {α:Type} {sz:Nat} {R:ER α} {w:World} {v:Value} {l:List α} {bs:List Nat} (h:Sl sz R w v l bs):xH (l.length:Int):=by
  obtain⟨a,c,rfl,h1,h2,_⟩:=h
  unfold maxLen at h2
  exact⟨by omega,by omega⟩
theorem Sl.nil {α:Type} (sz:Nat) (R:ER α) (w:World):Sl sz R w (.slice none 0 0) [] []:=⟨none,0,rfl,Nat.le_refl _,by unfold maxLen;omega,fun _=>rfl,.inl ⟨rfl,rfl⟩⟩
def ix {α:Type} (l:List α) (i:Int):Option α:=if 0≤i then l[i.toNat]? else none
theorem xEf {α:Type} {l:List α} {i:Int} {x:α} (h:ix l i=some x):0≤i∧l[i.toNat]?=some x:=by
  unfold ix at h
  split at h
  · exact⟨by assumption,h⟩
  · cases h
section
variable {P:Program} {a:Act} {w:World} {n:Nat} {L:List (Nat×Value)} {d:Option Tmp} {ty:TypeId} {pos:String} {af:Array Edge} {g:Option (Nat×Bool)}
theorem oCr {α:Type} {sz:Nat} {R:ER α} {x:Operand} {t:TypeId} {v:Value} {l:List α} {bs:List Nat} {e:TypeId} (ht:P.underlying t=some (.slice e)) (F:Sk a n L) (he:ev L x=some v) (h:Sl sz R w v l bs) (w':World) :
    (execOp a.eval ⟨d,.call ⟨.builtin .len,#[x],#[t]⟩,ty,pos,af,g⟩).run P w'= .ok (.value (.int .i64 l.length)) w':=by
  obtain⟨a',c,hv⟩:=h.val;rw[BigFrame.execOp_builtin,BigFrame.builtin_len];simp only[List.map_toArray,List.map_cons,List.map_nil,F.ev he,hv]
  simp [Builtin.len_,run_underlying ht]
  rfl
theorem xUv {x:Operand} {t:TypeId} {s:ByteArray} (ht:P.underlying t=some .string) (F:Sk a n L) (he:ev L x=some (.string s)) (w':World) :
    (execOp a.eval ⟨d,.call ⟨.builtin .len,#[x],#[t]⟩,ty,pos,af,g⟩).run P w'= .ok (.value (.int .i64 s.size)) w':=by
  rw[BigFrame.execOp_builtin,BigFrame.builtin_len];simp only[List.map_toArray,List.map_cons,List.map_nil,F.ev he]
  simp [Builtin.len_,run_underlying ht]
  rfl
theorem xPn {α:Type} {sz:Nat} {R:ER α} {x iy:Operand} {t:TypeId} {v:Value} {l:List α} {bs:List Nat} {e:TypeId} {i:Int} {y:α} (ht:P.underlying t=some (.slice e)) (hsz:∀ w,(sizeOf e).run P w= .ok sz w)
    (F:Sk a n L) (he:ev L x=some v) (hi:ev L iy=some (.int .i64 i)) (h:Rd (Sl sz R) w v l bs) (hix:ix l i=some y) :
    ∃ p bi,(∀ w',(execOp a.eval ⟨d,.indexAddr t x iy,ty,pos,af,g⟩).run P w'= .ok (.value p) w')∧Rd (Pt sz R) w p y bi∧∀ c∈bi,c∈bs:=by
  obtain⟨h0,hy⟩:=xEf hix;obtain⟨hk,rfl⟩:=List.getElem?_eq_some_iff.1 hy;obtain⟨a',c',rfl,h1,h2,h3,h4⟩:=h.r.open;obtain⟨b,o,bss,bi,rfl,rfl,_,_,hs,hr⟩:=h4 i.toNat hk;refine⟨.pointer (some ⟨b,o+i.toNat*sz,none⟩),b::bi,fun w'=>?_,⟨⟨b,_,bi,rfl,rfl,hr⟩,fun c hc=>?_⟩,fun c hc=>?_⟩
  · have hadd:=iF b o (i.toNat*sz)
    unfold execOp
    simp only[F.ev he,F.ev hi]
    have hil:i<(l.length:Int):=by omega
    simp [Instr.indexAt,run_underlying ht,asIntOf,h0,hil,hsz,hadd]
  · rcases List.mem_cons.1 hc with rfl | hc
    · exact h.m _ (by simp)
    · exact h.m _ (hs c hc)
  · rcases List.mem_cons.1 hc with rfl | hc
    · simp
    · exact hs c hc
theorem xVn {α β:Type} {sz s':Nat} {R:ER α} {R':ER β} {x:Operand} {t:TypeId} {k:Nat} {p:Value} {y:α} {z:β} {bs:List Nat} {off:Nat} (hp:∀ (a:Addr) w,(Instr.fieldAt t (.pointer (some a)) k).run P w= .ok (.pointer (some (a.add off))) w)
    (F:Sk a n L) (he:ev L x=some p) (h:Rd (Pt sz R) w p y bs) (hf:∀ f bi,R w f y bi→∃ bj,R' w (fun j=>f (off+j)) z bj∧∀ c∈bj,c∈bi) :
    ∃ p' bj,(∀ w',(execOp a.eval ⟨d,.fieldAddr t x k,ty,pos,af,g⟩).run P w'= .ok (.value p') w')∧Rd (Pt s' R') w p' z bj∧∀ c∈bj,c∈bs:=by
  obtain⟨⟨b,o,bi,rfl,rfl,hr⟩,hm⟩:=h;obtain⟨bj,hz,hs⟩:=hf _ _ hr;refine⟨.pointer (some ⟨b,o+off,none⟩),b::bj,fun w'=>?_,⟨⟨b,o+off,bj,rfl,rfl,?_⟩,fun c hc=>?_⟩,fun c hc=>?_⟩
  · unfold execOp
    simp only[F.ev he];have hadd:=iF b o off
    simp [hp,hadd]
  · simpa [Nat.add_assoc] using hz
  · rcases List.mem_cons.1 hc with rfl | hc
    · exact hm _ (by simp)
    · exact hm _ (by simp [hs c hc])
  · rcases List.mem_cons.1 hc with rfl | hc
    · simp
    · simp [hs c hc]
theorem nY {x:Operand} {t:TypeId} {b o:Nat} {v:Value} (hag:∀ w,(isAgg t).run P w= .ok false w) (F:Sk a n L) (he:ev L x=some (.pointer (some ⟨b,o,none⟩))) (hc:w.cell? ⟨b,o,none⟩=some v) :
    (execOp a.eval ⟨d,.load t x,ty,pos,af,g⟩).run P w= .ok (.value v) w:=by
  unfold execOp
  simp only[F.ev he]
  simp [Instr.loadAt,Instr.sureAddr,loadVar,hag,hc]
theorem xXg {x:Operand} {t:TypeId} {p:Value} {y:Int} {bs:List Nat} (hag:∀ w,(isAgg t).run P w= .ok false w) (F:Sk a n L) (he:ev L x=some p) (h:Rd (Pt 1 xG) w p y bs) :
    (execOp a.eval ⟨d,.load t x,ty,pos,af,g⟩).run P w= .ok (.value (.int .i64 y)) w:=by
  obtain⟨⟨b,o,bi,rfl,rfl,hr⟩,hm⟩:=h;exact nY hag F he (by simpa using hr.1)
theorem xWf {x:Operand} {t:TypeId} {p:Value} {y:ByteArray} {bs:List Nat} (hag:∀ w,(isAgg t).run P w= .ok false w) (F:Sk a n L) (he:ev L x=some p) (h:Rd (Pt 1 rV) w p y bs) :
    (execOp a.eval ⟨d,.load t x,ty,pos,af,g⟩).run P w= .ok (.value (.string y)) w:=by
  obtain⟨⟨b,o,bi,rfl,rfl,hr⟩,hm⟩:=h;exact nY hag F he (by simpa using hr.1)
theorem xWi {x:Operand} {t:TypeId} {p:Value} {y:UInt8} {bs:List Nat} (hag:∀ w,(isAgg t).run P w= .ok false w) (F:Sk a n L) (he:ev L x=some p) (h:Rd (Pt 1 aW) w p y bs) :
    (execOp a.eval ⟨d,.load t x,ty,pos,af,g⟩).run P w= .ok (.value (.int .u8 y.toNat)) w:=by
  obtain⟨⟨b,o,bi,rfl,rfl,hr⟩,hm⟩:=h;exact nY hag F he (by simpa using hr.1)
theorem Rd.i64 {p:Value} {y:Int} {bs:List Nat} (h:Rd (Pt 1 xG) w p y bs):xH y:=by
  obtain⟨⟨b,o,bi,rfl,rfl,hr⟩,hm⟩:=h;exact hr.2.1
end
section
variable {P:Program} {ops:Array Oper} {Q:Exit→Act→World→Prop} {a:Act} {w:World} {n:Nat} {L:List (Nat×Value)} {rest:List Oper} {d:Nat} {ty:TypeId} {pos:String} {af:Array Edge} {g:Option (Nat×Bool)}
theorem xRt {x:Operand} {t:TypeId} {s:ByteArray} (ht:P.underlying t=some .string) (F:Sk a n L) (hc:qH ops n L g d=true) (he:ev L x=some (.string s))
    (k:∀ a',Sk a' n ((d,.int .i64 s.size)::L)→wpList P ops Q rest a' w) :
    wpList P ops Q (⟨some d,.call ⟨.builtin .len,#[x],#[t]⟩,ty,pos,af,g⟩::rest) a w:=qX F hc (xUv ht F he w) k
theorem oDd {x:Operand} {T:TypeId} {v:Value} {arr:Array Value} (F:Sk a n L) (hc:qH ops n L g d=true) (he:ev L x=some v) (ha:v.cells=arr)
    (k:∀ a' w' b,fI w' b arr T→Below w.heap.size w w'→w.heap.size≤b→Sk a' n ((d,.pointer (some ⟨b,0,none⟩))::L)→wpList P ops Q rest a' w'):wpList P ops Q (⟨some d,.box T x,ty,pos,af,g⟩::rest) a w:=by
  subst ha;refine qX (v:=.pointer (some ⟨w.heap.size,0,none⟩)) (w':=w.alloc (.cells v.cells T)) F hc ?_ (fun a' F'=>k a' _ _ (fI.new rfl) ((Below.refl _ _).alloc (Nat.le_refl _) _) (Nat.le_refl _) F')
  unfold execOp
  simp only[F.ev he]
  rfl
theorem xWg {T:TypeId} {z:Value} {arr:Array Value} (hz:∀ w,(zeroValue T).run P w= .ok z w) (F:Sk a n L) (hc:qH ops n L g d=true) (ha:z.cells=arr)
    (k:∀ a' w' b,fI w' b arr T→Below w.heap.size w w'→w.heap.size≤b→Sk a' n ((d,.pointer (some ⟨b,0,none⟩))::L)→wpList P ops Q rest a' w'):wpList P ops Q (⟨some d,.alloc T,ty,pos,af,g⟩::rest) a w:=by
  subst ha;refine qX (v:=.pointer (some ⟨w.heap.size,0,none⟩)) (w':=w.alloc (.cells z.cells T)) F hc ?_ (fun a' F'=>k a' _ _ (fI.new rfl) ((Below.refl _ _).alloc (Nat.le_refl _) _) (Nat.le_refl _) F')
  unfold execOp
  simp [Instr.alloc,hz,newVar,newRow]
theorem xKh {x:Operand} {t:TypeId} {kk b o o' off:Nat} (hp:∀ (a:Addr) w,(Instr.fieldAt t (.pointer (some a)) kk).run P w= .ok (.pointer (some (a.add off))) w)
    (F:Sk a n L) (hc:qH ops n L g d=true) (he:ev L x=some (.pointer (some ⟨b,o,none⟩))) (ho:o+off=o')
    (k:∀ a',Sk a' n ((d,.pointer (some ⟨b,o',none⟩))::L)→wpList P ops Q rest a' w) :
    wpList P ops Q (⟨some d,.fieldAddr t x kk,ty,pos,af,g⟩::rest) a w:=by
  subst ho;refine qX F hc ?_ k
  unfold execOp
  have hadd:=iF b o off
  simp [F.ev he,hp,hadd]
theorem xWh {x:Operand} {t:TypeId} {b o:Nat} {v:Value} {arr:Array Value} {T:TypeId} (hag:∀ w,(isAgg t).run P w= .ok false w) (F:Sk a n L) (hc:qH ops n L g d=true) (he:ev L x=some (.pointer (some ⟨b,o,none⟩))) (h:fI w b arr T) (hv:arr[o]?=some v)
    (k:∀ a',Sk a' n ((d,v)::L)→wpList P ops Q rest a' w):wpList P ops Q (⟨some d,.load t x,ty,pos,af,g⟩::rest) a w:=qX F hc (nY hag F he ((h.cell o).trans hv)) k
theorem xSb {x:Operand} {t:TypeId} {b o sz:Nat} {cs:List Value} {arr:Array Value} {T:TypeId} (hag:∀ w,(isAgg t).run P w= .ok true w) (hsz:∀ w,(sizeOf t).run P w= .ok sz w) (F:Sk a n L) (hc:qH ops n L g d=true) (he:ev L x=some (.pointer (some ⟨b,o,none⟩))) (h:fI w b arr T) (hl:cs.length=sz)
    (hv:∀ j,j<sz→arr[o+j]?=cs[j]?)
    (k:∀ a',Sk a' n ((d,.agg cs.toArray)::L)→wpList P ops Q rest a' w):wpList P ops Q (⟨some d,.load t x,ty,pos,af,g⟩::rest) a w:=by
  subst hl;refine qX F hc ?_ k
  unfold execOp
  simp only[F.ev he]
  have hl:=run_loadCells_list (P:=P) w ⟨b,o,none⟩ cs (fun j v hj=>by
    have hjs:j<cs.length:=(List.getElem?_eq_some_iff.1 hj).1;have hadd:=iF b o j
    rw[hadd,h.cell,hv j hjs,hj])
  simp [Instr.loadAt,Instr.sureAddr,loadVar,hag,hsz,hl]
theorem xUq {x y:Operand} {t:TypeId} {b o:Nat} {v:Value} {arr arr':Array Value} {T:TypeId} (hsz:∀ w,(sizeOf t).run P w= .ok 1 w) (F:Sk a n L) (hc:gok ops L g=true) (he:ev L x=some (.pointer (some ⟨b,o,none⟩))) (he':ev L y=some v) (h:fI w b arr T) (hv:v.oneCell'=true) (ho:o<arr.size) (ha:arr.setIfInBounds o v=arr')
    (k:∀ w',fI w' b arr' T→Only [b] w w'→wpList P ops Q rest a w'):wpList P ops Q (⟨none,.store t x y,ty,pos,af,g⟩::rest) a w:=by
  subst ha;refine xMu (w':=w.setCell ⟨b,o,none⟩ v) F hc ?_ (k _ (h.set_at rfl) ⟨rfl,rfl,rfl,by simp,fun k _ hk=>Below.heap_setCell _ _ _ _ (by simpa using hk)⟩)
  have h1:v.cells = #[v]:=by cases v<;>first | rfl | simp [Value.oneCell'] at hv
  have h2:w.cell? ⟨b,o,none⟩=some arr[o]:=by rw[h.cell,Array.getElem?_eq_getElem ho]
  unfold execOp
  simp only[F.ev he,F.ev he']
  simp [Instr.storeAt,Instr.sureAddr,storeVar,hsz,h1,storeCells,Addr.add,run_store P w _ v _ hv,h2,h.frozen]
theorem xQk {x y:Operand} {t:TypeId} {b o:Nat} {vs:List Value} {arr arr':Array Value} {T:TypeId} (hsz:∀ w,(sizeOf t).run P w= .ok vs.length w) (F:Sk a n L) (hc:gok ops L g=true) (he:ev L x=some (.pointer (some ⟨b,o,none⟩))) (he':ev L y=some (.agg vs.toArray)) (h:fI w b arr T) (hv:∀ v∈vs,v.oneCell'=true) (ho:o+vs.length≤arr.size)
    (ha:(arr.toList.take o++vs++arr.toList.drop (o+vs.length)).toArray=arr')
    (k:∀ w',fI w' b arr' T→Only [b] w w'→wpList P ops Q rest a w'):wpList P ops Q (⟨none,.store t x y,ty,pos,af,g⟩::rest) a w:=by
  subst ha;have hst:=run_storeCells_at P b o T vs 0 arr w h (by simpa using ho) hv;simp only[Nat.add_zero] at hst;refine xMu (w':=w.setRow b (arr.toList.take o++vs++arr.toList.drop (o+vs.length)).toArray) F hc ?_ (k _ (setRow_heap w b arr _ T _ h) ⟨rfl,rfl,rfl,?_,fun k _ hk=>?_⟩)
  · unfold execOp
    simp only[F.ev he,F.ev he']
    simp [Instr.storeAt,Instr.sureAddr,storeVar,hsz,Value.cells,hst]
  · simp [World.setRow]
  · have hkb:k≠b:=by simpa using hk
    simp [World.setRow,Array.getElem?_modify,hkb.symm]
end
section
variable {P:Program}
theorem uW {f:FuncId} {fn:Func} {c:Code} {vs:List Value} {n:Nat} {L:List (Nat×Value)} {w:World} {R:Ending→World→Prop} (hf:P.funcs[f]?=some fn) (hb:fn.body=some c) (hn:fn.ntmps=n) (hl:Nat.ble vs.length n=true)
    (hL:sub (((List.range vs.length).zip vs)) L) (k:∀ a,Sk a n L→c.wp P (bodyPost P fn R) a w):Calls P f vs.toArray w R:=by
  refine calls_of_wp hf hb (k _ (Sk.sub (L:=(List.range vs.length).zip vs) ?_ hL));subst hn;have hl':=Nat.le_of_ble_eq_true hl;refine⟨rfl,by simp;omega,fun t v e=>?_⟩
  have key:∀ (l:List Value) (o:Nat),nZ ((List.range' o l.length).zip l) t=some v→o≤t∧l[t - o]?=some v:=by
    intro l
    induction l with
    | nil=>intro o h;cases h
    | cons x r ih=>
      intro o h;simp only[List.length_cons,List.range'_succ,List.zip_cons_cons,nZ] at h
      cases hb:Nat.beq o t with
      | true=>
        have hot:o=t:=Nat.eq_of_beq_eq_true hb;subst hot;rw[hb] at h;simp only[cond_true,Option.some.injEq] at h;subst h;exact⟨Nat.le_refl _,by simp⟩
      | false=>
        rw[hb] at h;obtain⟨h1,h2⟩:=ih (o+1) h;refine⟨by omega,?_⟩;rw[show t - o=(t - (o+1))+1 by omega,List.getElem?_cons_succ];exact h2
  rw[List.range_eq_range'] at e;obtain⟨_,h2⟩:=key vs 0 e;rw[Nat.sub_zero] at h2;have h3:t<vs.length:=(List.getElem?_eq_some_iff.1 h2).1;simp only[List.size_toArray,Array.getElem?_append,h3,if_true]
  simpa using h2
theorem xYb {fn:Func} {R:Ending→World→Prop} {a:Act} {w:World} (h:bodyPost P fn R .ret a w):bodyPost P fn R .normal a w:=h
end
end Go.Proofs.YtlommebgedmjdaaGreatDoor
