import Derived.Test.YtncganhbpbehaaaGreatQ
import Derived.Test.YtncganhbpbehaaaGreatDL
import Derived.Shelf.SlicesE.Compact
import Derived.Shelf.SortG.Plain
import Derived.Test.YtncganhbpbehaaaGreatNF
namespace Go.Proofs.YtncganhbpbehaaaGreat
set_option linter.unusedVariables false
set_option linter.unusedSimpArgs false
set_option maxRecDepth 100000
open Go.RowKit Go.Sort Go.Lib
theorem xKe {E B:Nat} {w:World} {v:Value} {l:List Int} {rb:List Nat} (A:Row 1 xI E B w v l rb []) (hl:0<l.length) :
    ∃ g cap cur,v= .slice (some ⟨g,0,none⟩) l.length cap∧rb=[g]∧eM w g cur E∧l.length≤cap∧cap≤maxLen∧cur.size=cap∧(∀ (i:Nat) (x:Int),l[i]?=some x→cur[i]?=some (Value.int .i64 x))∧∀ x∈l,xS x:=by
  obtain⟨xs,bss,ho,hbl,hfl,he⟩:=A.row;have hrb:=A.hrb
  have hat:∀ (i:Nat) (x:Int),l[i]?=some x→xs[i]?=some (.int .i64 x)∧xS x:=by
    intro i x hx;have hi:=(List.getElem?_eq_some_iff.1 hx).1;obtain⟨h1,h2,_⟩:=he i x bss[i] hx (List.getElem?_eq_getElem (by omega));exact⟨by simpa using h1,h2⟩
  rcases ho.2 with ⟨rfl,hn⟩ | ⟨g,cap,cur,rfl,hbg,hg,h4,h5,h6,h7⟩
  · omega
  · refine⟨g,cap,cur,rfl,?_,hg,h4,h5,by omega,fun i x hx=>?_,fun x hx=>?_⟩
    · rw[hrb];simp [mT,Value.ownBlock]
    · have hi:=(List.getElem?_eq_some_iff.1 hx).1
      have:=(hat i x hx).1;rw[← h7,List.getElem?_take,if_pos (by omega)] at this
      simpa using this
    · obtain⟨i,hi,rfl⟩:=List.mem_iff_getElem.1 hx
      exact(hat i _ (List.getElem?_eq_getElem hi)).2
theorem xKm {E g cap:Nat} {w:World} {l:List Int} {cur:Array Value} (hK:eM w g cur E) (h4:l.length≤cap) (h5:cap≤maxLen) (h6:cur.size=cap) (h7:∀ (i:Nat) (x:Int),l[i]?=some x→cur[i]?=some (Value.int .i64 x)) (hI:∀ x∈l,xS x) :
    Row 1 xI E 0 w (.slice (some ⟨g,0,none⟩) l.length cap) l [g] []:=by
  refine⟨⟨l.map (fun x=>Value.int .i64 x),List.replicate l.length [],⟨by simp,.inr ⟨g,cap,cur,rfl,Nat.zero_le _,hK,h4,h5,by omega,?_⟩⟩,by simp,by simp,fun i x bi hx hb=>?_⟩,by simp [mT,Value.ownBlock],zK.nil _,Dj.nil _⟩
  · refine List.ext_getElem? (fun m=>?_)
    rw[List.getElem?_take,List.getElem?_map]
    split
    · rename_i hm
      have:l[m]?=some (l[m]'(by omega)):=List.getElem?_eq_getElem (by omega);rw[Array.getElem?_toList,this,h7 m _ this]
      rfl
    · rename_i hm
      rw[List.getElem?_eq_none (by omega)]
      rfl
  · have hb2:=List.eq_of_mem_replicate (List.mem_of_getElem? hb)
    refine⟨?_,hI x (List.mem_of_getElem? hx),hb2⟩
    show(List.map (fun x=>Value.int .i64 x) l)[i*1+0]?=_
    rw[Nat.mul_one,Nat.add_zero,List.getElem?_map,hx]
    rfl
theorem yB {E g:Nat} {w:World} {cur:Array Value} (hK:eM w g cur E) (d:Array Int):eM (putRow (Value.int .i64) w g 0 d) g (putCells (Value.int .i64) 0 d cur) E∧Only [g] w (putRow (Value.int .i64) w g 0 d):=by
  have hlt:=hK.lt
  unfold eM at hK ⊢
  unfold putRow mapBlock
  refine⟨?_,rfl,rfl,rfl,?_,fun k hk hn=>?_⟩
  · simp only[Array.getElem?_modify,if_true,hK]
    rfl
  · simp
  · simp only[Array.getElem?_modify]
    rw[if_neg (fun e=>hn (by simp [e]))]
def kW (x0:List Int):Option (List Int):=
  if 0<x0.length∧x0.length≤1048576 then some (compactUpTo x0.toArray x0.length) else none
theorem wM (d:Array Int) (m:Nat):(compactUpTo d m).length≤m:=by
  unfold compactUpTo
  rw[List.length_map];exact Nat.le_trans (List.length_filter_le _ _) (by simp)
theorem jC {x0:List Int} (r:List Int) (hR:kW x0=some r) {v0:Value} {rb0:List Nat} (w0:World) (A0:Row 1 xI 2 0 w0 v0 x0 rb0 []):Calls Tryz.prog 117 #[v0] w0 (xCw rb0 (fun v w'=>∃ (v1':Value) (rb2':List Nat),v=v1'∧Row 1 xI 2 0 w' v1' r rb2' []∧Frs rb0 w0.heap.size rb2') w0):=by
  unfold kW at hR
  split at hR
  case isFalse=>cases hR
  rename_i hc;obtain rfl:=Option.some.inj hR
  clear hR
  obtain⟨g,cap,cur,rfl,rfl,hK,hle,hmx,hsz,hcur,hI⟩:=xKe A0 hc.1
  have hH:Holds (Value.int .i64) w0 g 0 x0.toArray:=by
    intro j hj
    have hj':j<x0.length:=by simpa using hj
    refine⟨?_,hK.frozen _⟩;rw[Nat.zero_add,hK.cell,hcur j _ (List.getElem?_eq_getElem hj'),getElem!_pos x0.toArray j hj]
    simp
  have h:=AnyE.slices_Compact layC (Value.int .i64) (fun x=>rfl) (EqlAt.int _ _ _) (NeqAt.int _ _ _) 0 Tryz.zeroValue2 g 0 cap x0.toArray w0 hH (by simp;omega) (by simpa using hle);refine(show Calls Tryz.prog 117 #[.slice (some ⟨g,0,none⟩) x0.length cap] w0 _ from by simpa [xEv] using h).mono ?_
  rintro e w' ⟨rfl,q,rfl⟩
  have hln:=wM x0.toArray x0.length;have hK1:eM (Go.Sort.ahead w0 q) g cur 2:=hK;have hq:Only [g] w0 (Go.Sort.ahead w0 q):=⟨rfl,rfl,rfl,Nat.le_refl _,fun _ _ _=>rfl⟩;obtain⟨k1,k2⟩:=yB hK1 (compactUpTo x0.toArray x0.length++List.replicate (x0.length - (compactUpTo x0.toArray x0.length).length) 0).toArray;refine⟨_,rfl,hq.trans k2,_,[g],rfl,xKm k1 (by omega) hmx (by simp [putCells,hsz]) (fun i x hx=>?_) (fun x hx=>?_),Frs.mem (fun c hc=>hc)⟩
  · have hi:=(List.getElem?_eq_some_iff.1 hx).1
    have hsz2:i<cur.size:=by omega
    unfold putCells
    rw[Array.getElem?_mapIdx,Array.getElem?_eq_getElem hsz2,Option.map_some,if_pos ⟨Nat.zero_le _,by simp;omega⟩,Nat.sub_zero]
    have hg:((compactUpTo x0.toArray x0.length++List.replicate (x0.length - (compactUpTo x0.toArray x0.length).length) 0).toArray)[i]! = x:=by
      rw[getElem!_pos _ _ (by simp;omega)];simp only[List.getElem_toArray];rw[List.getElem_append_left hi];exact(List.getElem?_eq_some_iff.1 hx).2
    rw[hg]
  · unfold compactUpTo at hx
    obtain⟨j,hj,rfl⟩:=List.mem_map.1 hx
    have hj2:j<x0.length:=by
      have:=(List.mem_filter.1 hj).1
      simpa using this
    rw[getElem!_pos _ _ (by simpa using hj2)];exact hI _ (by simp)
end Go.Proofs.YtncganhbpbehaaaGreat
namespace Go.Proofs.YtncganhbpbehaaaGreat
set_option linter.unusedVariables false
set_option linter.unusedSimpArgs false
set_option maxRecDepth 100000
open Go.RowKit Go.Sort Go.Lib
def aF (x0:List Int):Option (List Int):=
  if 0<x0.length∧x0.length≤1048576 then some (x0.mergeSort fun x y=>decide (x≤y)) else none
theorem lL {x0:List Int} (r:List Int) (hR:aF x0=some r) {v0:Value} {rb0:List Nat} (w0:World) (A0:Row 1 xI 2 0 w0 v0 x0 rb0 []):Calls Tryz.prog 116 #[v0] w0 (xCw rb0 (fun v w'=>v= .tuple #[]∧Row 1 xI 2 0 w' v0 r rb0 []) w0):=by
  unfold aF at hR
  split at hR
  case isFalse=>cases hR
  rename_i hc;obtain rfl:=Option.some.inj hR
  clear hR
  obtain⟨g,cap,cur,rfl,rfl,hK,hle,hmx,hsz,hcur,hI⟩:=xKe A0 hc.1
  have hH:Holds (Value.int .i64) w0 g 0 x0.toArray:=by
    intro j hj
    have hj':j<x0.length:=by simpa using hj
    refine⟨?_,hK.frozen _⟩;rw[Nat.zero_add,hK.cell,hcur j _ (List.getElem?_eq_getElem hj'),getElem!_pos x0.toArray j hj]
    simp
  have h:=AnyG.slices_Sort_int layS g 0 cap x0 w0 hH hK.lt (by omega);refine(show Calls Tryz.prog 116 #[.slice (some ⟨g,0,none⟩) x0.length cap] w0 _ from by simpa [xDs] using h).mono ?_
  rintro e w' ⟨rfl,q,os,rfl⟩
  have hln:(x0.mergeSort fun x y=>decide (x≤y)).length=x0.length:=List.length_mergeSort _;obtain⟨m,hm⟩:∃ m,m=x0.mergeSort fun x y=>decide (x≤y):=⟨_,rfl⟩
  have hmem:∀ x∈m,x∈x0:=fun x hx=>by rw[hm] at hx;exact List.mem_mergeSort.1 hx
  rw[← hm] at hln ⊢;have hK1:eM (Go.Sort.ahead w0 q) g cur 2:=hK;have hq:Only [g] w0 (Go.Sort.ahead w0 q):=⟨rfl,rfl,rfl,Nat.le_refl _,fun _ _ _=>rfl⟩;obtain⟨k1,k2⟩:=yB hK1 m.toArray;have hq2:=hq.trans k2
  have hg:Only [g] w0 (grow (putRow (Value.int .i64) (Go.Sort.ahead w0 q) g 0 m.toArray) os):=by
    refine hq2.trans ⟨rfl,rfl,rfl,by simp [grow],fun k hk _=>heap_grow_old _ _ hk⟩
  have k3:eM (grow (putRow (Value.int .i64) (Go.Sort.ahead w0 q) g 0 m.toArray) os) g (putCells (Value.int .i64) 0 m.toArray cur) 2:=by
    unfold eM at k1 ⊢
    rw[heap_grow_old _ _ (sN k1),k1]
  have R:=xKm (l:=m) k3 (by omega) hmx (by simp [putCells,hsz]) (fun i x hx=>by
    have hi:=(List.getElem?_eq_some_iff.1 hx).1
    have hsz2:i<cur.size:=by omega
    unfold putCells
    rw[Array.getElem?_mapIdx,Array.getElem?_eq_getElem hsz2,Option.map_some,if_pos ⟨Nat.zero_le _,by simp;omega⟩,Nat.sub_zero]
    have hg:(m.toArray)[i]! = x:=by
      rw[getElem!_pos m.toArray i (by simpa using hi)];simp only[List.getElem_toArray];exact(List.getElem?_eq_some_iff.1 hx).2
    rw[hg]) (fun x hx=>hI x (hmem x hx))
  rw[hln] at R;exact⟨_,rfl,hg,rfl,R⟩
end Go.Proofs.YtncganhbpbehaaaGreat
namespace Go.Proofs.YtncganhbpbehaaaGreat
set_option linter.unusedVariables false
set_option linter.unusedSimpArgs false
open Go.RowKit
section
variable {ops:Array Oper} {Q:Exit→Act→World→Prop} {a:Act} {w w0:World} {n:Nat} {L:List (Nat×Value)} {rest:List Oper} {d:Nat} {dd:Option Tmp} {ty:TypeId} {pos:String} {af:Array Edge} {g:Option (Nat×Bool)} {N:Nat→Prop} {X:List Nat} {D:List As} {P:Program}
theorem xPg {xs:List Operand} {at':Array TypeId} {v:Value} {l r:List Int} (F:Sk a n L) (hc:aG ops n L g d=true) (hf:∀ args w,(callFunc 116 args).run Tryz.prog w= .ok (.enter 116 args) w) (e:evs L xs=some [v]) (H:Sep X N w0 w (rl 1 xI 2 v l::D)) (hr:aF l=some r)
    (k:∀ a' w',Sep X N w0 w' (rl 1 xI 2 v r::D)→Sk a' n ((d,.tuple #[])::L)→wpList Tryz.prog ops Q rest a' w'):wpList Tryz.prog ops Q (⟨some d,.call ⟨.value (.func 116),xs.toArray,at'⟩,ty,pos,af,g⟩::rest) a w:=by
  obtain⟨Y,⟨rb,ib,r1,ho,r2,r3⟩,hN,hY,tr⟩:=H.hd;obtain rfl:=mY r1;refine xAe F hc hf e (lL r hr w r1) (fun a' v' w' l' ⟨hv,q⟩ F'=>?_);subst hv;exact k a' w' (tr (Z:=rb) r2 l' (B:=rl 1 xI 2 v r) (Y1:=Y) ⟨rb,[],q,Own.nil _ _,r2,fun _ h=>nomatch h⟩ n0 (fun c hc=>⟨.inl hc,Nat.lt_of_lt_of_le (hY c hc).1 l'.size⟩)) F'
theorem xKi {xs:List Operand} {at':Array TypeId} {v:Value} {l r:List Int} (F:Sk a n L) (hc:aG ops n L g d=true) (hf:∀ args w,(callFunc 117 args).run Tryz.prog w= .ok (.enter 117 args) w) (e:evs L xs=some [v]) (H:Sep X N w0 w (rl 1 xI 2 v l::D)) (hr:kW l=some r)
    (k:∀ a' w' v',Sep X N w0 w' (rl 1 xI 2 v' r::D)→Sk a' n ((d,v')::L)→wpList Tryz.prog ops Q rest a' w'):wpList Tryz.prog ops Q (⟨some d,.call ⟨.value (.func 117),xs.toArray,at'⟩,ty,pos,af,g⟩::rest) a w:=by
  obtain⟨Y,⟨rb,ib,r1,ho,r2,r3⟩,hN,hY,tr⟩:=H.hd;obtain rfl:=mY r1;refine xAe F hc hf e (jC r hr w r1) (fun a' v' w' l' ⟨v1,rb2,hv,q,hfr⟩ F'=>?_);subst hv;refine k a' w' v' (tr (Z:=rb) r2 l' (B:=rl 1 xI 2 v' r) (Y1:=Y++rb2) ⟨rb2,[],q,Own.nil _ _,fun c hc=>List.mem_append_right _ hc,fun _ h=>nomatch h⟩ n0 (fun c hc=>?_)) F'
  rcases List.mem_append.1 hc with hc | hc
  · exact⟨.inl hc,Nat.lt_of_lt_of_le (hY c hc).1 l'.size⟩
  · exact⟨(hfr c hc).imp (r2 c) id,q.memR c hc⟩
end
end Go.Proofs.YtncganhbpbehaaaGreat
