import Derived.Test.YtlommebgedmjdaaGreatDoorProg
import Derived.Shelf.SlicesE.Compact
import Derived.Shelf.SortG.Plain
import Derived.Test.YtlommebgedmjdaaGreatDoorQ
import Derived.Shelf.SortG.SortNone
import Derived.Test.YtlommebgedmjdaaGreatDoorNL
namespace Go.Proofs.YtlommebgedmjdaaGreatDoor
set_option maxRecDepth 100000
open Go.Shelf
def xMa:Go.Shelf.Ren:=⟨fun | 43=>163 | n=>n,fun | 22=>36 | 23=>2 | 3=>3 | 4=>4 | 0=>0 | n=>n,fun | n=>n⟩
theorem layC:Go.Proofs.SlLaysE.n43 Tryz.prog xMa:={
  mixed:=by kernel_rfl
  f43:=⟨Tryz.f163.name,by decide,Tryz.func163.trans (congrArg some (by kernel_rfl))⟩
  t0:=Tryz.underlying0
  a0:=Tryz.isAgg0
  z0:=Tryz.sizeOf0
  v0:=Tryz.zeroValue0
  t3:=Tryz.underlying3
  a3:=Tryz.isAgg3
  z3:=Tryz.sizeOf3
  v3:=Tryz.zeroValue3
  t4:=Tryz.underlying4
  a4:=Tryz.isAgg4
  z4:=Tryz.sizeOf4
  v4:=Tryz.zeroValue4
  t22:=Tryz.underlying36
  a22:=Tryz.isAgg36
  z22:=Tryz.sizeOf36
  v22:=Tryz.zeroValue36
  a23:=Tryz.isAgg2
  z23:=Tryz.sizeOf2 }
def xFp:Go.Shelf.Ren:=⟨fun | 53=>162 | 64=>193 | 63=>192 | 78=>224 | 79=>225 | 70=>215 | 71=>216 | 72=>217 | 73=>218 | 74=>219 | 75=>220 | 59=>221 | 76=>222 | 77=>223 | 88=>238 | 89=>239 | 90=>240 | 91=>241 | 92=>242 | 68=>214 | 96=>246 | n=>n,fun | 22=>36 | 23=>2 | 3=>3 | 51=>163 | 0=>0 | 67=>205 | 69=>111 | 4=>4 | 61=>246 | 60=>245 | 44=>194 | 5=>5 | 9=>9 | 75=>268 | 79=>272 | 83=>277 | 84=>278 | n=>n,fun | n=>n⟩
theorem oCu:Go.Proofs.SlLaysN.n53 Tryz.prog xFp:={
  mixed:=by kernel_rfl
  f53:=⟨Tryz.f162.name,by decide,Tryz.func162.trans (congrArg some (by kernel_rfl))⟩
  f59:=⟨Tryz.f221.name,by decide,Tryz.func221.trans (congrArg some (by kernel_rfl))⟩
  f63:=⟨Tryz.f192.name,by decide,Tryz.func192.trans (congrArg some (by kernel_rfl))⟩
  f64:=Tryz.func193.trans (congrArg some (by kernel_rfl))
  f68:=⟨Tryz.f214.name,by decide,Tryz.func214.trans (congrArg some (by kernel_rfl))⟩
  f70:=⟨Tryz.f215.name,by decide,Tryz.func215.trans (congrArg some (by kernel_rfl))⟩
  f71:=⟨Tryz.f216.name,by decide,Tryz.func216.trans (congrArg some (by kernel_rfl))⟩
  f72:=⟨Tryz.f217.name,by decide,Tryz.func217.trans (congrArg some (by kernel_rfl))⟩
  f73:=⟨Tryz.f218.name,by decide,Tryz.func218.trans (congrArg some (by kernel_rfl))⟩
  f74:=⟨Tryz.f219.name,by decide,Tryz.func219.trans (congrArg some (by kernel_rfl))⟩
  f75:=⟨Tryz.f220.name,by decide,Tryz.func220.trans (congrArg some (by kernel_rfl))⟩
  f76:=⟨Tryz.f222.name,by decide,Tryz.func222.trans (congrArg some (by kernel_rfl))⟩
  f77:=⟨Tryz.f223.name,by decide,Tryz.func223.trans (congrArg some (by kernel_rfl))⟩
  f78:=Tryz.func224.trans (congrArg some (by kernel_rfl))
  f79:=Tryz.func225.trans (congrArg some (by kernel_rfl))
  f88:=⟨Tryz.f238.name,by decide,Tryz.func238.trans (congrArg some (by kernel_rfl))⟩
  f89:=Tryz.func239.trans (congrArg some (by kernel_rfl))
  f90:=Tryz.func240.trans (congrArg some (by kernel_rfl))
  f91:=⟨Tryz.f241.name,by decide,Tryz.func241.trans (congrArg some (by kernel_rfl))⟩
  f92:=⟨Tryz.f242.name,by decide,Tryz.func242.trans (congrArg some (by kernel_rfl))⟩
  f96:=⟨Tryz.f246.name,by decide,Tryz.func246.trans (congrArg some (by kernel_rfl))⟩
  t0:=Tryz.underlying0
  a0:=Tryz.isAgg0
  z0:=Tryz.sizeOf0
  v0:=Tryz.zeroValue0
  t3:=Tryz.underlying3
  a3:=Tryz.isAgg3
  z3:=Tryz.sizeOf3
  v3:=Tryz.zeroValue3
  t4:=Tryz.underlying4
  a4:=Tryz.isAgg4
  z4:=Tryz.sizeOf4
  v4:=Tryz.zeroValue4
  t5:=Tryz.underlying5
  a5:=Tryz.isAgg5
  z5:=Tryz.sizeOf5
  v5:=Tryz.zeroValue5
  t9:=Tryz.underlying9
  a9:=Tryz.isAgg9
  z9:=Tryz.sizeOf9
  v9:=Tryz.zeroValue9
  t22:=Tryz.underlying36
  a22:=Tryz.isAgg36
  z22:=Tryz.sizeOf36
  v22:=Tryz.zeroValue36
  t23:=Tryz.underlying2
  a23:=Tryz.isAgg2
  z23:=Tryz.sizeOf2
  v23:=Tryz.zeroValue2
  t44:=Tryz.underlying194
  a44:=Tryz.isAgg194
  z44:=Tryz.sizeOf194
  v44:=Tryz.zeroValue194
  t51:=Tryz.underlying163
  a51:=Tryz.isAgg163
  z51:=Tryz.sizeOf163
  v51:=Tryz.zeroValue163
  t60:=Tryz.underlying245
  a60:=Tryz.isAgg245
  z60:=Tryz.sizeOf245
  v60:=Tryz.zeroValue245
  t61:=Tryz.underlying246
  a61:=Tryz.isAgg246
  z61:=Tryz.sizeOf246
  v61:=Tryz.zeroValue246
  t67:=Tryz.underlying205
  a67:=Tryz.isAgg205
  z67:=Tryz.sizeOf205
  v67:=Tryz.zeroValue205
  t69:=Tryz.underlying111
  a69:=Tryz.isAgg111
  z69:=Tryz.sizeOf111
  v69:=Tryz.zeroValue111
  t75:=Tryz.underlying268
  a75:=Tryz.isAgg268
  z75:=Tryz.sizeOf268
  v75:=Tryz.zeroValue268
  t79:=Tryz.underlying272
  a79:=Tryz.isAgg272
  z79:=Tryz.sizeOf272
  v79:=Tryz.zeroValue272
  t83:=Tryz.underlying277
  a83:=Tryz.isAgg277
  z83:=Tryz.sizeOf277
  v83:=Tryz.zeroValue277
  t84:=Tryz.underlying278
  a84:=Tryz.isAgg278
  z84:=Tryz.sizeOf278
  v84:=Tryz.zeroValue278 }
end Go.Proofs.YtlommebgedmjdaaGreatDoor
namespace Go.Proofs.YtlommebgedmjdaaGreatDoor
set_option linter.unusedVariables false
set_option linter.unusedSimpArgs false
set_option maxRecDepth 100000
open Go.RowKit Go.Sort Go.Lib
theorem xSd {E B:Nat} {w:World} {v:Value} {l:List Int} {rb:List Nat} (A:Row 1 xG E B w v l rb []) (hl:0<l.length) :
    ∃ g cap cur,v= .slice (some ⟨g,0,none⟩) l.length cap∧rb=[g]∧fI w g cur E∧l.length≤cap∧cap≤maxLen∧cur.size=cap∧(∀ (i:Nat) (x:Int),l[i]?=some x→cur[i]?=some (Value.int .i64 x))∧∀ x∈l,xH x:=by
  obtain⟨xs,bss,ho,hbl,hfl,he⟩:=A.row;have hrb:=A.hrb
  have hat:∀ (i:Nat) (x:Int),l[i]?=some x→xs[i]?=some (.int .i64 x)∧xH x:=by
    intro i x hx;have hi:=(List.getElem?_eq_some_iff.1 hx).1;obtain⟨h1,h2,_⟩:=he i x bss[i] hx (List.getElem?_eq_getElem (by omega));exact⟨by simpa using h1,h2⟩
  rcases ho.2 with ⟨rfl,hn⟩ | ⟨g,cap,cur,rfl,hbg,hg,h4,h5,h6,h7⟩
  · omega
  · refine⟨g,cap,cur,rfl,?_,hg,h4,h5,by omega,fun i x hx=>?_,fun x hx=>?_⟩
    · rw[hrb];simp [sW,Value.ownBlock]
    · have hi:=(List.getElem?_eq_some_iff.1 hx).1
      have:=(hat i x hx).1;rw[← h7,List.getElem?_take,if_pos (by omega)] at this
      simpa using this
    · obtain⟨i,hi,rfl⟩:=List.mem_iff_getElem.1 hx
      exact(hat i _ (List.getElem?_eq_getElem hi)).2
theorem xSa {E g cap:Nat} {w:World} {l:List Int} {cur:Array Value} (hK:fI w g cur E) (h4:l.length≤cap) (h5:cap≤maxLen) (h6:cur.size=cap) (h7:∀ (i:Nat) (x:Int),l[i]?=some x→cur[i]?=some (Value.int .i64 x)) (hI:∀ x∈l,xH x) :
    Row 1 xG E 0 w (.slice (some ⟨g,0,none⟩) l.length cap) l [g] []:=by
  refine⟨⟨l.map (fun x=>Value.int .i64 x),List.replicate l.length [],⟨by simp,.inr ⟨g,cap,cur,rfl,Nat.zero_le _,hK,h4,h5,by omega,?_⟩⟩,by simp,by simp,fun i x bi hx hb=>?_⟩,by simp [sW,Value.ownBlock],qM.nil _,Dj.nil _⟩
  · refine List.ext_getElem? (fun m=>?_)
    rw[List.getElem?_take,List.getElem?_map]
    split
    · rename_i hm
      have:l[m]?=some (l[m]'(by omega)):=List.getElem?_eq_getElem (by omega);rw[Array.getElem?_toList,this,h7 m _ this]
      rfl
    · rename_i hm
      rw[List.getElem?_eq_none (by omega)]
      rfl
  · have hb2:=List.eq_of_mem_replicate (List.mem_of_getElem? hb)
    refine⟨?_,hI x (List.mem_of_getElem? hx),hb2⟩
    show(List.map (fun x=>Value.int .i64 x) l)[i*1+0]?=_
    rw[Nat.mul_one,Nat.add_zero,List.getElem?_map,hx]
    rfl
theorem xFj {E g:Nat} {w:World} {cur:Array Value} (hK:fI w g cur E) (d:Array Int):fI (putRow (Value.int .i64) w g 0 d) g (putCells (Value.int .i64) 0 d cur) E∧Only [g] w (putRow (Value.int .i64) w g 0 d):=by
  have hlt:=hK.lt
  unfold fI at hK ⊢
  unfold putRow mapBlock
  refine⟨?_,rfl,rfl,rfl,?_,fun k hk hn=>?_⟩
  · simp only[Array.getElem?_modify,if_true,hK]
    rfl
  · simp
  · simp only[Array.getElem?_modify]
    rw[if_neg (fun e=>hn (by simp [e]))]
theorem xOe {E B:Nat} {w:World} {v:Value} {l:List Int} {rb:List Nat} (A:Row 1 xG E B w v l rb []) (hl:l.length=0):∃ p cap,v= .slice p 0 cap:=by
  obtain⟨xs,bss,ho,_⟩:=A.row
  rcases ho.2 with ⟨rfl,hn⟩ | ⟨g,cap,cur,rfl,_⟩
  · exact⟨none,0,rfl⟩
  · exact⟨_,cap,by rw[hl]⟩
theorem xJe (p:Option Addr) (cap:Nat) (w0:World):Calls Tryz.prog 163 #[.slice p 0 cap] w0 (fun e w'=>e= .returned (.slice p 0 cap)∧w'=w0):=by
  refine uW (L:=[(0,.slice p 0 cap)]) Tryz.func163 rfl rfl rfl (sc rfl sn) (fun a F=>?_);refine oO (vL (kV F rfl rfl fun a F=>vM (qS (oO (oO (vL (kD F rfl rfl (fun a F=>?_))))))));refine qX (v:=.int .i64 0) (w':=w0) F rfl ?_ (fun a F=>?_)
  · rw[BigFrame.execOp_builtin,BigFrame.builtin_len]
    simp only[List.map_toArray,List.map_cons,List.map_nil,F.ev (x:=.tmp 6) (v:=.slice p 0 cap) rfl]
    simp [Builtin.len_,run_underlying Tryz.underlying36]
    rfl
  refine xFk F rfl rfl rfl fun a F=>vM (qS (oAb F rfl (fun hb=>?_) (fun hb=>absurd hb (by decide))));exact oO (vL (kD F rfl rfl fun a F=>kV F rfl rfl fun a F=>vM (qS (mN (rB (tB F rfl (xMj F rfl) ⟨rfl,rfl⟩))))))
def vP (x0:List Int):Option (List Int):=
  if x0.length≤1048576 then some (compactUpTo x0.toArray x0.length) else none
theorem xDx (d:Array Int) (m:Nat):(compactUpTo d m).length≤m:=by
  unfold compactUpTo
  rw[List.length_map];exact Nat.le_trans (List.length_filter_le _ _) (by simp)
theorem mA {x0:List Int} (r:List Int) (hR:vP x0=some r) {v0:Value} {rb0:List Nat} (w0:World) (A0:Row 1 xG 2 0 w0 v0 x0 rb0 []):Calls Tryz.prog 163 #[v0] w0 (xNi rb0 (fun v w'=>∃ (v1':Value) (rb2':List Nat),v=v1'∧Row 1 xG 2 0 w' v1' r rb2' []∧Frs rb0 w0.heap.size rb2') w0):=by
  unfold vP at hR
  split at hR
  case isFalse=>cases hR
  rename_i hc;obtain rfl:=Option.some.inj hR
  clear hR
  rcases Nat.eq_zero_or_pos x0.length with hz | hz
  · obtain⟨p,cap,rfl⟩:=xOe A0 hz
    obtain rfl:=List.length_eq_zero_iff.1 hz;refine(xJe p cap w0).mono ?_
    rintro e w' ⟨rfl,rfl⟩
    exact⟨_,rfl,Only.refl _ _,_,rb0,rfl,A0,Frs.mem (fun c hc=>hc)⟩
  obtain⟨g,cap,cur,rfl,rfl,hK,hle,hmx,hsz,hcur,hI⟩:=xSd A0 hz
  have hH:Holds (Value.int .i64) w0 g 0 x0.toArray:=by
    intro j hj
    have hj':j<x0.length:=by simpa using hj
    refine⟨?_,hK.frozen _⟩;rw[Nat.zero_add,hK.cell,hcur j _ (List.getElem?_eq_getElem hj'),getElem!_pos x0.toArray j hj]
    simp
  have h:=AnyE.slices_Compact layC (Value.int .i64) (fun x=>rfl) (EqlAt.int _ _ _) (NeqAt.int _ _ _) 0 Tryz.zeroValue2 g 0 cap x0.toArray w0 hH (by simp;omega) (by simpa using hle);refine(show Calls Tryz.prog 163 #[.slice (some ⟨g,0,none⟩) x0.length cap] w0 _ from by simpa [xMa] using h).mono ?_
  rintro e w' ⟨rfl,q,rfl⟩
  have hln:=xDx x0.toArray x0.length;have hK1:fI (Go.Sort.ahead w0 q) g cur 2:=hK;have hq:Only [g] w0 (Go.Sort.ahead w0 q):=⟨rfl,rfl,rfl,Nat.le_refl _,fun _ _ _=>rfl⟩;obtain⟨k1,k2⟩:=xFj hK1 (compactUpTo x0.toArray x0.length++List.replicate (x0.length - (compactUpTo x0.toArray x0.length).length) 0).toArray;refine⟨_,rfl,hq.trans k2,_,[g],rfl,xSa k1 (by omega) hmx (by simp [putCells,hsz]) (fun i x hx=>?_) (fun x hx=>?_),Frs.mem (fun c hc=>hc)⟩
  · have hi:=(List.getElem?_eq_some_iff.1 hx).1
    have hsz2:i<cur.size:=by omega
    unfold putCells
    rw[Array.getElem?_mapIdx,Array.getElem?_eq_getElem hsz2,Option.map_some,if_pos ⟨Nat.zero_le _,by simp;omega⟩,Nat.sub_zero]
    have hg:((compactUpTo x0.toArray x0.length++List.replicate (x0.length - (compactUpTo x0.toArray x0.length).length) 0).toArray)[i]! = x:=by
      rw[getElem!_pos _ _ (by simp;omega)];simp only[List.getElem_toArray];rw[List.getElem_append_left hi];exact(List.getElem?_eq_some_iff.1 hx).2
    rw[hg]
  · unfold compactUpTo at hx
    obtain⟨j,hj,rfl⟩:=List.mem_map.1 hx
    have hj2:j<x0.length:=by
      have:=(List.mem_filter.1 hj).1
      simpa using this
    rw[getElem!_pos _ _ (by simpa using hj2)];exact hI _ (by simp)
end Go.Proofs.YtlommebgedmjdaaGreatDoor
namespace Go.Proofs.YtlommebgedmjdaaGreatDoor
set_option linter.unusedVariables false
set_option linter.unusedSimpArgs false
set_option maxRecDepth 100000
open Go.RowKit Go.Sort Go.Lib
def zM (x0:List Int):Option (List Int):=
  if x0.length≤1048576 then some (x0.mergeSort fun x y=>decide (x≤y)) else none
theorem nP {x0:List Int} (r:List Int) (hR:zM x0=some r) {v0:Value} {rb0:List Nat} (w0:World) (A0:Row 1 xG 2 0 w0 v0 x0 rb0 []):Calls Tryz.prog 162 #[v0] w0 (xNi rb0 (fun v w'=>v= .tuple #[]∧Row 1 xG 2 0 w' v0 r rb0 []) w0):=by
  unfold zM at hR
  split at hR
  case isFalse=>cases hR
  rename_i hc;obtain rfl:=Option.some.inj hR
  clear hR
  rcases Nat.eq_zero_or_pos x0.length with hz | hz
  · obtain⟨p,cap,rfl⟩:=xOe A0 hz
    obtain rfl:=List.length_eq_zero_iff.1 hz;refine(show Calls Tryz.prog 162 #[.slice p 0 cap] w0 _ from by simpa [xFp] using AnyG.slices_Sort_int_none oCu p cap w0).mono ?_
    rintro e w' ⟨rfl,rfl⟩
    exact⟨_,rfl,Only.refl _ _,rfl,by rw[List.mergeSort_nil];exact A0⟩
  obtain⟨g,cap,cur,rfl,rfl,hK,hle,hmx,hsz,hcur,hI⟩:=xSd A0 hz
  have hH:Holds (Value.int .i64) w0 g 0 x0.toArray:=by
    intro j hj
    have hj':j<x0.length:=by simpa using hj
    refine⟨?_,hK.frozen _⟩;rw[Nat.zero_add,hK.cell,hcur j _ (List.getElem?_eq_getElem hj'),getElem!_pos x0.toArray j hj]
    simp
  have h:=AnyG.slices_Sort_int oCu g 0 cap x0 w0 hH hK.lt (by omega);refine(show Calls Tryz.prog 162 #[.slice (some ⟨g,0,none⟩) x0.length cap] w0 _ from by simpa [xFp] using h).mono ?_
  rintro e w' ⟨rfl,q,os,rfl⟩
  have hln:(x0.mergeSort fun x y=>decide (x≤y)).length=x0.length:=List.length_mergeSort _;obtain⟨m,hm⟩:∃ m,m=x0.mergeSort fun x y=>decide (x≤y):=⟨_,rfl⟩
  have hmem:∀ x∈m,x∈x0:=fun x hx=>by rw[hm] at hx;exact List.mem_mergeSort.1 hx
  rw[← hm] at hln ⊢;have hK1:fI (Go.Sort.ahead w0 q) g cur 2:=hK;have hq:Only [g] w0 (Go.Sort.ahead w0 q):=⟨rfl,rfl,rfl,Nat.le_refl _,fun _ _ _=>rfl⟩;obtain⟨k1,k2⟩:=xFj hK1 m.toArray;have hq2:=hq.trans k2
  have hg:Only [g] w0 (grow (putRow (Value.int .i64) (Go.Sort.ahead w0 q) g 0 m.toArray) os):=by
    refine hq2.trans ⟨rfl,rfl,rfl,by simp [grow],fun k hk _=>heap_grow_old _ _ hk⟩
  have k3:fI (grow (putRow (Value.int .i64) (Go.Sort.ahead w0 q) g 0 m.toArray) os) g (putCells (Value.int .i64) 0 m.toArray cur) 2:=by
    unfold fI at k1 ⊢
    rw[heap_grow_old _ _ (mJ k1),k1]
  have R:=xSa (l:=m) k3 (by omega) hmx (by simp [putCells,hsz]) (fun i x hx=>by
    have hi:=(List.getElem?_eq_some_iff.1 hx).1
    have hsz2:i<cur.size:=by omega
    unfold putCells
    rw[Array.getElem?_mapIdx,Array.getElem?_eq_getElem hsz2,Option.map_some,if_pos ⟨Nat.zero_le _,by simp;omega⟩,Nat.sub_zero]
    have hg:(m.toArray)[i]! = x:=by
      rw[getElem!_pos m.toArray i (by simpa using hi)];simp only[List.getElem_toArray];exact(List.getElem?_eq_some_iff.1 hx).2
    rw[hg]) (fun x hx=>hI x (hmem x hx))
  rw[hln] at R;exact⟨_,rfl,hg,rfl,R⟩
end Go.Proofs.YtlommebgedmjdaaGreatDoor
namespace Go.Proofs.YtlommebgedmjdaaGreatDoor
set_option linter.unusedVariables false
set_option linter.unusedSimpArgs false
open Go.RowKit
section
variable {ops:Array Oper} {Q:Exit→Act→World→Prop} {a:Act} {w w0:World} {n:Nat} {L:List (Nat×Value)} {rest:List Oper} {d:Nat} {dd:Option Tmp} {ty:TypeId} {pos:String} {af:Array Edge} {g:Option (Nat×Bool)} {N:Nat→Prop} {X:List Nat} {D:List As} {P:Program}
theorem oAv {xs:List Operand} {at':Array TypeId} {v:Value} {l r:List Int} (F:Sk a n L) (hc:qH ops n L g d=true) (hf:∀ args w,(callFunc 162 args).run Tryz.prog w= .ok (.enter 162 args) w) (e:evs L xs=some [v]) (H:Sep X N w0 w (rl 1 xG 2 v l::D)) (hr:zM l=some r)
    (k:∀ a' w',Sep X N w0 w' (rl 1 xG 2 v r::D)→Sk a' n ((d,.tuple #[])::L)→wpList Tryz.prog ops Q rest a' w'):wpList Tryz.prog ops Q (⟨some d,.call ⟨.value (.func 162),xs.toArray,at'⟩,ty,pos,af,g⟩::rest) a w:=by
  obtain⟨Y,⟨rb,ib,r1,ho,r2,r3⟩,hN,hY,tr⟩:=H.hd;obtain rfl:=sP r1;refine xLb F hc hf e (nP r hr w r1) (fun a' v' w' l' ⟨hv,q⟩ F'=>?_);subst hv;exact k a' w' (tr (Z:=rb) r2 l' (B:=rl 1 xG 2 v r) (Y1:=Y) ⟨rb,[],q,Own.nil _ _,r2,fun _ h=>nomatch h⟩ n0 (fun c hc=>⟨.inl hc,Nat.lt_of_lt_of_le (hY c hc).1 l'.size⟩)) F'
theorem xUp {xs:List Operand} {at':Array TypeId} {v:Value} {l r:List Int} (F:Sk a n L) (hc:qH ops n L g d=true) (hf:∀ args w,(callFunc 163 args).run Tryz.prog w= .ok (.enter 163 args) w) (e:evs L xs=some [v]) (H:Sep X N w0 w (rl 1 xG 2 v l::D)) (hr:vP l=some r)
    (k:∀ a' w' v',Sep X N w0 w' (rl 1 xG 2 v' r::D)→Sk a' n ((d,v')::L)→wpList Tryz.prog ops Q rest a' w'):wpList Tryz.prog ops Q (⟨some d,.call ⟨.value (.func 163),xs.toArray,at'⟩,ty,pos,af,g⟩::rest) a w:=by
  obtain⟨Y,⟨rb,ib,r1,ho,r2,r3⟩,hN,hY,tr⟩:=H.hd;obtain rfl:=sP r1;refine xLb F hc hf e (mA r hr w r1) (fun a' v' w' l' ⟨v1,rb2,hv,q,hfr⟩ F'=>?_);subst hv;refine k a' w' v' (tr (Z:=rb) r2 l' (B:=rl 1 xG 2 v' r) (Y1:=Y++rb2) ⟨rb2,[],q,Own.nil _ _,fun c hc=>List.mem_append_right _ hc,fun _ h=>nomatch h⟩ n0 (fun c hc=>?_)) F'
  rcases List.mem_append.1 hc with hc | hc
  · exact⟨.inl hc,Nat.lt_of_lt_of_le (hY c hc).1 l'.size⟩
  · exact⟨(hfr c hc).imp (r2 c) id,q.memR c hc⟩
end
end Go.Proofs.YtlommebgedmjdaaGreatDoor
