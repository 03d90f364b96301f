import Derived.Test.YtncganhbpbehaaaGreatNG
import Derived.Test.YtncganhbpbehaaaGreatZ
import Derived.ArgAppend
import Derived.Lib.SliceRun
import Derived.Test.YtncganhbpbehaaaGreatNF
namespace Go.Proofs.YtncganhbpbehaaaGreat
set_option linter.unusedVariables false
set_option linter.unusedSimpArgs false
set_option maxRecDepth 100000
open Go.RowKit
def bL (l:List Literal):List Value:=l.flatMap (fun x=>[.int .i64 x.var,.int .i64 x.value])
theorem mA (l:List Literal):(bL l).length=l.length*2:=by
  induction l with
  | nil=>rfl
  | cons x l ih=>
    show([Value.int .i64 x.var,.int .i64 x.value]++bL l).length=_
    rw[List.length_append,ih,List.length_cons]
    simp;omega
theorem xGo (a b:List Literal):bL (a++b)=bL a++bL b:=List.flatMap_append
theorem uV:∀ (l:List Literal) (k:Nat),bL (l.take k)=(bL l).take (k*2)
  | [],k=>by simp [bL]
  | x::l,0=>by simp [bL]
  | x::l,k+1=>by
    have ih:=uV l k
    show[Value.int .i64 x.var,.int .i64 x.value]++bL (l.take k)=([Value.int .i64 x.var,.int .i64 x.value]++bL l).take ((k+1)*2)
    rw[ih,show(k+1)*2=k*2+1+1 by omega]
    rfl
theorem uY:∀ (l:List Literal) (k:Nat),bL (l.drop k)=(bL l).drop (k*2)
  | [],k=>by simp [bL]
  | x::l,0=>by simp [bL]
  | x::l,k+1=>by
    have ih:=uY l k
    show bL (l.drop k)=([Value.int .i64 x.var,.int .i64 x.value]++bL l).drop ((k+1)*2)
    rw[ih,show(k+1)*2=k*2+1+1 by omega]
    rfl
theorem sS:∀ (l:List Literal) (i:Nat) (x:Literal),l[i]?=some x→(bL l)[i*2]?=some (.int .i64 x.var)∧(bL l)[i*2+1]?=some (.int .i64 x.value)
  | [],i,x,h=>by simp at h
  | y::l,0,x,h=>by
    obtain rfl:y=x:=by simpa using h
    exact⟨rfl,rfl⟩
  | y::l,i+1,x,h=>by
    have ih:=sS l i x (by simpa using h);rw[show(i+1)*2=i*2+1+1 by omega];exact ih
theorem xPz {E B:Nat} {w:World} {v:Value} {l:List Literal} {rb:List Nat} (A:Row 2 xU E B w v l rb []) (hl:0<l.length) :
    ∃ g cap cur,v= .slice (some ⟨g,0,none⟩) l.length cap∧rb=[g]∧eM w g cur E∧l.length≤cap∧cap≤maxLen∧cur.size=cap*2∧cur.toList.take (l.length*2)=bL l∧∀ x∈l,xS x.var∧xS x.value:=by
  obtain⟨xs,bss,ho,hbl,hfl,he⟩:=A.row;have hrb:=A.hrb
  have hat:∀ (i:Nat) (x:Literal),l[i]?=some x→xs[i*2]?=some (.int .i64 x.var)∧xs[i*2+1]?=some (.int .i64 x.value)∧xS x.var∧xS x.value:=by
    intro i x hx;have hi:=(List.getElem?_eq_some_iff.1 hx).1;obtain⟨h1,h2,h3,h4,_⟩:=he i x bss[i] hx (List.getElem?_eq_getElem (by omega));exact⟨h1,h3,h2,h4⟩
  have hxs:xs=bL l:=by
    refine List.ext_getElem? (fun m=>?_)
    by_cases hm:m<l.length*2
    · have hm2:m / 2<l.length:=by omega
      have hx:l[m / 2]?=some l[m / 2]:=List.getElem?_eq_getElem hm2;obtain⟨h1,h2,_⟩:=hat _ _ hx;obtain⟨h3,h4⟩:=sS l _ _ hx
      rcases Nat.mod_two_eq_zero_or_one m with h | h
      · rw[show m / 2*2=m by omega] at h1 h3
        rw[h1,h3]
      · rw[show m / 2*2+1=m by omega] at h2 h4
        rw[h2,h4]
    · rw[List.getElem?_eq_none (by have:=ho.1;omega),List.getElem?_eq_none (by rw[mA];omega)]
  rcases ho.2 with ⟨rfl,hn⟩ | ⟨g,cap,cur,rfl,hbg,hg,h4,h5,h6,h7⟩
  · omega
  · refine⟨g,cap,cur,rfl,?_,hg,h4,h5,h6,by rw[h7,hxs],fun x hx=>?_⟩
    · rw[hrb];simp [mT,Value.ownBlock]
    · obtain⟨i,hi,rfl⟩:=List.mem_iff_getElem.1 hx
      exact(hat i _ (List.getElem?_eq_getElem hi)).2.2
theorem xNw {E g cap:Nat} {w:World} {l:List Literal} {cur:Array Value} (hK:eM w g cur E) (h4:l.length≤cap) (h5:cap≤maxLen) (h6:cur.size=cap*2) (h7:cur.toList.take (l.length*2)=bL l) (hI:∀ x∈l,xS x.var∧xS x.value) :
    Row 2 xU E 0 w (.slice (some ⟨g,0,none⟩) l.length cap) l [g] []:=by
  refine⟨⟨bL l,List.replicate l.length [],⟨mA l,.inr ⟨g,cap,cur,rfl,Nat.zero_le _,hK,h4,h5,h6,h7⟩⟩,by simp,by simp,fun i x bi hx hb=>?_⟩,by simp [mT,Value.ownBlock],zK.nil _,Dj.nil _⟩;have hb2:=List.eq_of_mem_replicate (List.mem_of_getElem? hb);obtain⟨h1,h2⟩:=sS l i x hx;have:=hI x (List.mem_of_getElem? hx);exact⟨h1,this.1,h2,this.2,hb2⟩
theorem xFt {P:Program} (w:World) (t e ty:TypeId) (ht:P.underlying t=some (.slice e)) (hv:∀ w,(zeroValue e).run P w= .ok (.agg #[.int .i64 0,.int .i64 0]) w) (b o n c:Nat) (hn:0<n)
    (hc:∀ j,j<n*2→(w.cell? ⟨b,o+j,none⟩).isSome=true) (hf:∀ j,j<n*2→w.frozen? ⟨b,o+j,none⟩=false) :
    (Builtin.clear_ #[t] ty #[.slice (some ⟨b,o,none⟩) n c]).run P w= .ok (.tuple #[]) (w.setCells b o (List.replicate (n*2) (.int .i64 0))):=by
  have hzc:(Builtin.zeroCells (Value.agg #[.int .i64 0,.int .i64 0]).cells n).toList=List.replicate (n*2) (.int .i64 0):=by
    simp [Builtin.zeroCells,Value.cells]
    apply List.ext_getElem
    · simp
    · intro i h1 h2
      have:i % 2=0∨i % 2=1:=by omega
      rcases this with h | h<;>simp [h]
  have hst:=run_storeCells_cells (P:=P) b o (List.replicate (n*2) (.int .i64 0)) 0 w (by simpa using hc) (by simpa using hf) (by intro v hv';rw[List.eq_of_mem_replicate hv'];rfl);simp only[Nat.add_zero] at hst;obtain⟨m,rfl⟩:∃ m,n=m+1:=⟨n - 1,by omega⟩
  simp [Builtin.clear_,run_underlying ht,hv,hzc,hst]
theorem xLn {P:Program} {t:TypeId} {e sz:Nat} {ad:Option Addr} {len cap i j m:Nat} (ht:P.underlying t=some (.slice e)) (hsz:∀ w,(sizeOf e).run P w= .ok sz w) (hij:i≤j) (hj:j≤m) (hm:m≤cap) :
    ∃ v,∀ w,(Instr.sliceAt t (.slice ad len cap) (some (.int .i64 i)) (some (.int .i64 j)) (some (.int .i64 m))).run P w= .ok v w:=by
  have h1:(i:Int)≤j:=by omega
  have h2:(j:Int)≤m:=by omega
  have h3:(m:Int)≤cap:=by omega
  exact⟨_,fun w=>by
    simp [Instr.sliceAt,Instr.slice,run_underlying ht,Instr.sliceBounds,Instr.sliceBound,asIntOf,hsz,h1,h2,h3,hij,hj,hm]
    rfl⟩
def zI (x0:List Literal) (x1:Int) (x2:Int):Option (List Literal):=
  if 0≤x1∧x1<x2∧x2≤(x0.length:Int) then some (x0.take x1.toNat++x0.drop x2.toNat) else none
set_option maxHeartbeats 1000000 in
theorem iL {x0:List Literal} {x1:Int} {x2:Int} (r:(List Literal)) (hR:zI x0 x1 x2=some r) {v0:Value} {rb0:List Nat} (w0:World) (A0:Row 2 xU 35 0 w0 v0 x0 rb0 []) (hx1:xS x1) (hx2:xS x2):Calls Tryz.prog 31 #[v0,.int .i64 x1,.int .i64 x2] w0 (xCw rb0 (fun v w'=>∃ (v1':Value) (rb2':List Nat),v=v1'∧Row 2 xU 35 0 w' v1' r rb2' []∧Frs rb0 w0.heap.size rb2') w0):=by
  unfold zI at hR
  split at hR
  case isFalse=>cases hR
  rename_i hc;obtain⟨c1,c2,c3⟩:=hc;obtain⟨i,rfl⟩:∃ m:Nat,x1=m:=⟨x1.toNat,by omega⟩;obtain⟨j,rfl⟩:∃ m:Nat,x2=m:=⟨x2.toNat,by omega⟩;obtain rfl:=Option.some.inj hR
  clear hR
  simp only[Int.toNat_natCast]
  have hij:i<j:=by omega
  have hj:j≤x0.length:=by omega
  have A1:=A0;obtain⟨g,cap,cur,rfl,rfl,hK,hle,hmx,hsz,hcur,hI⟩:=xPz A0 (by omega);obtain⟨v3,h3⟩:=xLn (P:=Tryz.prog) (ad:=some ⟨g,0,none⟩) (len:=x0.length) (cap:=cap) (i:=i) (j:=j) (m:=x0.length) Tryz.underlying32 Tryz.sizeOf35 (by omega) hj hle;refine xX (L:=[(0,.slice (some ⟨g,0,none⟩) x0.length cap),(1,.int .i64 i),(2,.int .i64 j)]) Tryz.func31 rfl rfl rfl (sc rfl (sc rfl (sc rfl sn))) (fun a F=>?_);refine xF ?_;refine xY ?_;refine yD F rfl rfl (fun a F=>?_);refine qU ?_;refine xG ?_;refine xF ?_;refine xY ?_;refine lZ F rfl rfl (fun a F=>?_);refine lZ F rfl rfl (fun a F=>?_);refine lZ F rfl rfl (fun a F=>?_);refine lZ F rfl rfl (fun a F=>?_);refine xKc Tryz.underlying32 F rfl rfl A1.rd (fun a F=>?_)
  refine zS (v:=v3) (w':=w0) F rfl (by
    unfold execOp
    simp [F.ev (x:=.tmp 8) rfl,F.ev (x:=.tmp 9) rfl,F.ev (x:=.tmp 10) rfl,F.ev (x:=.tmp 12) rfl,h3]) (fun a F=>?_)
  refine qU ?_;refine xG ?_;refine xF ?_;refine xF ?_;refine xY ?_;refine lZ F rfl rfl (fun a F=>?_);refine lZ F rfl rfl (fun a F=>?_);refine xPf F rfl rfl rfl (fun a F=>?_);refine qU ?_;refine xG ?_;refine qV F rfl (fun hb=>?_) (fun hb=>?_)
  · exfalso
    simp at hb
    omega
  refine xN ?_;refine xG ?_;refine xF ?_;refine xY ?_;refine lZ F rfl rfl (fun a F=>?_);refine xKc Tryz.underlying32 F rfl rfl A1.rd (fun a F=>?_);refine yD F rfl rfl (fun a F=>?_);refine qU ?_;refine xG ?_;refine xF ?_;refine xLy (by kernel_rfl) (fun w l=>?_);replace hK:=hK.thru l;have hO:Only [g] w0 w:=⟨l.os,l.tape,l.output,l.size,fun k hk _=>l.block k hk⟩;obtain⟨l2,hl2⟩:∃ l2,l2=x0.take i++x0.drop j:=⟨_,rfl⟩
  have hlen:i+(x0.length - j)=l2.length:=by rw[hl2];simp;omega
  have hI2:∀ x∈l2,xS x.var∧xS x.value:=fun x hx=>by
    rw[hl2] at hx
    rcases List.mem_append.1 hx with h | h
    · exact hI x (List.mem_of_mem_take h)
    · exact hI x (List.mem_of_mem_drop h)
  rw[← hl2];have hr2:=fun w=>nU (P:=Tryz.prog) (ad:=some ⟨g,0,none⟩) (len:=x0.length) (cap:=cap) (i:=0) (j:=i) Tryz.underlying32 Tryz.sizeOf35 (Nat.zero_le _) (by omega) none (some (.int .i64 (i:Int))) (.inr ⟨rfl,rfl⟩) (.inl rfl) w
  have hv2:(if cap=0 then some (⟨g,0,none⟩:Addr) else (some (⟨g,0,none⟩:Addr)).map (·.add (0*2)))=some ⟨g,0,none⟩:=by
    split
    · rfl
    · rw[Nat.zero_mul,Option.map_some,bH]
  rw[hv2,Nat.sub_zero,Nat.sub_zero] at hr2;have hr5:=fun w=>nU (P:=Tryz.prog) (ad:=some ⟨g,0,none⟩) (len:=x0.length) (cap:=cap) (i:=j) (j:=x0.length) Tryz.underlying32 Tryz.sizeOf35 hj (by omega) (some (.int .i64 (j:Int))) none (.inl rfl) (.inr ⟨rfl,rfl⟩) w;obtain⟨news,hnews⟩:∃ news,news=bL (x0.drop j):=⟨_,rfl⟩
  have hnl:news.length=(x0.length - j)*2:=by rw[hnews,mA,List.length_drop]
  have hget:∀ m,m<x0.length*2→cur[m]?=(bL x0)[m]?:=fun m hm=>by
    rw[← hcur,List.getElem?_take,if_pos hm]
    simp
  obtain⟨A,hA,hsrc⟩:∃ A:Addr,(if cap=j then some (⟨g,0,none⟩:Addr) else (some (⟨g,0,none⟩:Addr)).map (·.add (j*2)))=some A∧∀ q u,news[q]?=some u→w.cell? (A.add q)=some u:=by
    by_cases h:cap=j
    · refine⟨⟨g,0,none⟩,by simp [h],fun q u hu=>?_⟩
      have h0:news.length=0:=by rw[hnl];omega
      rw[List.length_eq_zero_iff.1 h0] at hu
      simp at hu
    · refine⟨⟨g,j*2,none⟩,by rw[if_neg h,Option.map_some,bH,Nat.zero_add],fun q u hu=>?_⟩
      have hq:=(List.getElem?_eq_some_iff.1 hu).1;rw[hnl] at hq;rw[bH,hK.cell,hget _ (by omega),← hu,hnews,uY,List.getElem?_drop]
  rw[hA] at hr5;refine xFi 0 rfl (by kernel_rfl) (by kernel_rfl) (by kernel_rfl) ?_;refine xO F rfl (fun w l=>xL F rfl) (fun a F=>?_);refine xFi 1 rfl (by kernel_rfl) (by kernel_rfl) (by kernel_rfl) ?_;refine xO F rfl (fun w l=>xL F rfl) (fun a F=>?_);refine xFi 2 rfl (by kernel_rfl) (by kernel_rfl) (by kernel_rfl) ?_
  refine xO (v:=.slice (some ⟨g,0,none⟩) i cap) F rfl (fun w l=>by
    unfold execOp
    simp [F.ev (x:=.tmp 20) rfl,F.ev (x:=.tmp 21) rfl,hr2]) (fun a F=>?_)
  refine xFi 3 rfl (by kernel_rfl) (by kernel_rfl) (by kernel_rfl) ?_;refine xO F rfl (fun w l=>xL F rfl) (fun a F=>?_);refine xFi 4 rfl (by kernel_rfl) (by kernel_rfl) (by kernel_rfl) ?_;refine xO F rfl (fun w l=>xL F rfl) (fun a F=>?_);refine xFi 5 rfl (by kernel_rfl) (by kernel_rfl) (by kernel_rfl) ?_
  refine xO (v:=.slice (some A) (x0.length - j) (cap - j)) F rfl (fun w l=>by
    unfold execOp
    simp [F.ev (x:=.tmp 23) rfl,F.ev (x:=.tmp 24) rfl,hr5]) (fun a F=>?_)
  refine b_e 6 rfl (by kernel_rfl) ?_
  have hinf:(Tryz.prog.info? 35).map (fun i=>(i.zero,i.size,i.bytes))=some (some (.agg #[.int .i64 0,.int .i64 0]),2,16):=by kernel_rfl
  obtain⟨inf,hi,hzz⟩:=Option.map_eq_some_iff.1 hinf;simp only[Prod.mk.injEq] at hzz;obtain⟨hz,hsize,hbyt⟩:=hzz
  refine zS (v:=.slice (some ⟨g,0,none⟩) l2.length cap) (w':=w.setCells g (i*2) news) F rfl (by
    have h:=run_append_room_cells (P:=Tryz.prog) (w:=w) (ty:=32) 32 35 inf Tryz.underlying32 hi g 0 i cap A (x0.length - j) (cap - j) news (by rw[hnl,hsize]) hsrc (by
      intro u hu;rw[hnews] at hu;obtain⟨x,_,hx⟩:=List.mem_flatMap.1 hu
      simp at hx
      rcases hx with rfl | rfl<;>rfl) (by omega) (by
      intro q hq
      rw[hsize,hK.cell,Array.getElem?_eq_getElem (by omega)];rfl) (by
      intro q hq
      exact hK.frozen _)
    rw[hsize,Nat.zero_add,hlen] at h;rw[BigFrame.execOp_builtin,BigFrame.builtin_append];simp only[List.map_toArray,List.map_cons,List.map_nil,F.ev (x:=.tmp 22) rfl,F.ev (x:=.tmp 25) rfl]
    simp [h]) (fun a F=>?_)
  refine qU ?_;refine xG ?_;refine⟨.inr (by kernel_rfl),?_⟩;obtain⟨cur1,q1,q2,q3,q4⟩:=gK g 35 (0,0) news (i*2) w cur hK (by omega);have hO1:=hO.trans (mV g (i*2) news w);generalize w.setCells g (i*2) news=w1 at *;have hK1:eM w1 g cur1 35:=q1
  have hcur1:cur1.toList.take (l2.length*2)=bL l2:=by
    refine List.ext_getElem? (fun m=>?_);rw[List.getElem?_take]
    split
    · rename_i hm
      rw[Array.getElem?_toList,hl2,xGo,uV]
      have htl:((bL x0).take (i*2)).length=i*2:=by rw[List.length_take,mA];omega
      by_cases hmi:m<i*2
      · rw[List.getElem?_append_left (by omega),List.getElem?_take,if_pos hmi,q4 m (.inl hmi),hget m (by omega)]
      · rw[List.getElem?_append_right (by omega),htl,← hnews]
        have:=q3 (m - i*2) (by omega);rw[show i*2+(m - i*2)=m by omega] at this;rw[this]
    · rename_i hm
      rw[List.getElem?_eq_none (by rw[mA];omega)]
  have R1:=xNw hK1 (by omega) hmx (by rw[q2];exact hsz) hcur1 hI2;refine xFi 7 rfl (by kernel_rfl) (by kernel_rfl) (by kernel_rfl) ?_;refine xO F rfl (fun w l=>vK F rfl) (fun a F=>?_);refine vZ (by kernel_rfl) ?_;refine xG ?_;refine xF ?_;refine xY ?_;refine lZ F rfl rfl (fun a F=>?_);refine lZ F rfl rfl (fun a F=>?_);refine xKc Tryz.underlying32 F rfl rfl R1.rd (fun a F=>?_);refine lZ F rfl rfl (fun a F=>?_);have hr8:=nU (P:=Tryz.prog) (ad:=some ⟨g,0,none⟩) (len:=l2.length) (cap:=cap) (i:=l2.length) (j:=x0.length) Tryz.underlying32 Tryz.sizeOf35 (by omega) hle (some (.int .i64 (l2.length:Int))) (some (.int .i64 (x0.length:Int))) (.inl rfl) (.inl rfl) w1;rw[if_neg (by omega),Option.map_some,bH,Nat.zero_add] at hr8
  refine zS (v:=.slice (some ⟨g,l2.length*2,none⟩) (x0.length - l2.length) (cap - l2.length)) (w':=w1) F rfl (by
    unfold execOp
    simp [F.ev (x:=.tmp 27) rfl,F.ev (x:=.tmp 29) rfl,F.ev (x:=.tmp 30) rfl,hr8]) (fun a F=>?_)
  refine xCe (v:=.tuple #[]) (w':=w1.setCells g (l2.length*2) (List.replicate ((x0.length - l2.length)*2) (.int .i64 0))) F rfl (by
    have h:=xFt (P:=Tryz.prog) w1 32 35 0 Tryz.underlying32 Tryz.zeroValue35 g (l2.length*2) (x0.length - l2.length) (cap - l2.length) (by omega) (fun q hq=>by
      rw[hK1.cell,Array.getElem?_eq_getElem (by omega)];rfl) (fun q hq=>hK1.frozen _)
    rw[BigFrame.execOp_builtin,BigFrame.builtin_clear];simp only[List.map_toArray,List.map_cons,List.map_nil,F.ev (x:=.tmp 31) rfl]
    simp [h]) ?_
  obtain⟨cur2,p1,p2,p3,p4⟩:=gK g 35 (0,0) (List.replicate ((x0.length - l2.length)*2) (Value.int .i64 0)) (l2.length*2) w1 cur1 hK1 (by rw[List.length_replicate];omega);have hO2:=hO1.trans (mV g (l2.length*2) (List.replicate ((x0.length - l2.length)*2) (Value.int .i64 0)) w1);generalize w1.setCells g (l2.length*2) (List.replicate ((x0.length - l2.length)*2) (Value.int .i64 0))=w2 at *
  have R2:=xNw (w:=w2) (l:=l2) (cur:=cur2) p1 (by omega) hmx (by rw[p2,q2];exact hsz) (by
    rw[← hcur1];refine List.ext_getElem? (fun m=>?_);rw[List.getElem?_take,List.getElem?_take]
    split
    · rename_i hm
      rw[Array.getElem?_toList,Array.getElem?_toList,p4 m (.inl hm)]
    · rfl) hI2
  refine qU ?_;refine xG ?_;refine xF ?_;refine xY ?_;refine lZ F rfl rfl (fun a F=>?_);refine yD F rfl rfl (fun a F=>?_);refine qU ?_;refine xG ?_;refine xR ?_;refine xT F rfl (oE F rfl) ?_;exact⟨_,rfl,hO2,_,[g],rfl,R2,Frs.mem (fun c hc=>hc)⟩
end Go.Proofs.YtncganhbpbehaaaGreat
namespace Go.Proofs.YtncganhbpbehaaaGreat
set_option linter.unusedVariables false
set_option linter.unusedSimpArgs false
open Go.RowKit
section
variable {ops:Array Oper} {Q:Exit→Act→World→Prop} {a:Act} {w w0:World} {n:Nat} {L:List (Nat×Value)} {rest:List Oper} {d:Nat} {dd:Option Tmp} {ty:TypeId} {pos:String} {af:Array Edge} {g:Option (Nat×Bool)} {N:Nat→Prop} {X:List Nat} {D:List As} {P:Program}
theorem xMw {xs:List Operand} {at':Array TypeId} {v:Value} {l r:List Literal} {i j:Int} (F:Sk a n L) (hc:aG ops n L g d=true) (hf:∀ args w,(callFunc 31 args).run Tryz.prog w= .ok (.enter 31 args) w) (e:evs L xs=some [v,.int .i64 i,.int .i64 j]) (H:Sep X N w0 w (rl 2 xU 35 v l::D)) (hr:zI l i j=some r) (hi:xS i) (hj:xS j)
    (k:∀ a' w' v',Sep X N w0 w' (rl 2 xU 35 v' r::D)→Sk a' n ((d,v')::L)→wpList Tryz.prog ops Q rest a' w'):wpList Tryz.prog ops Q (⟨some d,.call ⟨.value (.func 31),xs.toArray,at'⟩,ty,pos,af,g⟩::rest) a w:=by
  obtain⟨Y,⟨rb,ib,r1,ho,r2,r3⟩,hN,hY,tr⟩:=H.hd;obtain rfl:=mY r1;refine xAe F hc hf e (iL r hr w r1 hi hj) (fun a' v' w' l' ⟨v1,rb2,hv,q,hfr⟩ F'=>?_);subst hv;refine k a' w' v' (tr (Z:=rb) r2 l' (B:=rl 2 xU 35 v' r) (Y1:=Y++rb2) ⟨rb2,[],q,Own.nil _ _,fun c hc=>List.mem_append_right _ hc,fun _ h=>nomatch h⟩ n0 (fun c hc=>?_)) F'
  rcases List.mem_append.1 hc with hc | hc
  · exact⟨.inl hc,Nat.lt_of_lt_of_le (hY c hc).1 l'.size⟩
  · exact⟨(hfr c hc).imp (r2 c) id,q.memR c hc⟩
end
end Go.Proofs.YtncganhbpbehaaaGreat
