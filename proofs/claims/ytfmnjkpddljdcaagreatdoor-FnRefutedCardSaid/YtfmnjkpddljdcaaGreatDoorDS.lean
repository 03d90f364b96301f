import Derived.Test.YtfmnjkpddljdcaaGreatDoorProg
import Derived.Shelf.SlicesE.Compact
import Derived.Shelf.SortG.Plain
import Derived.Test.YtfmnjkpddljdcaaGreatDoorQ
import Derived.Shelf.SortG.SortNone
import Derived.Test.YtfmnjkpddljdcaaGreatDoorNL
namespace Go.Proofs.YtfmnjkpddljdcaaGreatDoor
set_option maxRecDepth 100000
open Go.Shelf
def xJd:Go.Shelf.Ren:=⟨fun | 43=>77 | n=>n,fun | 22=>46 | 23=>2 | 3=>3 | 4=>4 | 0=>0 | n=>n,fun | n=>n⟩
theorem layC:Go.Proofs.SlLaysE.n43 Tryz.prog xJd:={
  mixed:=by kernel_rfl
  f43:=⟨Tryz.f77.name,by decide,Tryz.func77.trans (congrArg some (by kernel_rfl))⟩
  t0:=Tryz.underlying0
  a0:=Tryz.isAgg0
  z0:=Tryz.sizeOf0
  v0:=Tryz.zeroValue0
  t3:=Tryz.underlying3
  a3:=Tryz.isAgg3
  z3:=Tryz.sizeOf3
  v3:=Tryz.zeroValue3
  t4:=Tryz.underlying4
  a4:=Tryz.isAgg4
  z4:=Tryz.sizeOf4
  v4:=Tryz.zeroValue4
  t22:=Tryz.underlying46
  a22:=Tryz.isAgg46
  z22:=Tryz.sizeOf46
  v22:=Tryz.zeroValue46
  a23:=Tryz.isAgg2
  z23:=Tryz.sizeOf2 }
def xDn:Go.Shelf.Ren:=⟨fun | 53=>76 | 64=>112 | 63=>111 | 78=>155 | 79=>156 | 70=>146 | 71=>147 | 72=>148 | 73=>149 | 74=>150 | 75=>151 | 59=>152 | 76=>153 | 77=>154 | 88=>177 | 89=>178 | 90=>179 | 91=>180 | 92=>181 | 68=>182 | 96=>201 | n=>n,fun | 22=>46 | 23=>2 | 3=>3 | 51=>162 | 0=>0 | 67=>219 | 69=>116 | 4=>4 | 61=>212 | 60=>211 | 44=>216 | 5=>5 | 9=>9 | 75=>237 | 79=>241 | 83=>259 | 84=>260 | n=>n,fun | n=>n⟩
theorem xWa:Go.Proofs.SlLaysN.n53 Tryz.prog xDn:={
  mixed:=by kernel_rfl
  f53:=⟨Tryz.f76.name,by decide,Tryz.func76.trans (congrArg some (by kernel_rfl))⟩
  f59:=⟨Tryz.f152.name,by decide,Tryz.func152.trans (congrArg some (by kernel_rfl))⟩
  f63:=⟨Tryz.f111.name,by decide,Tryz.func111.trans (congrArg some (by kernel_rfl))⟩
  f64:=Tryz.func112.trans (congrArg some (by kernel_rfl))
  f68:=⟨Tryz.f182.name,by decide,Tryz.func182.trans (congrArg some (by kernel_rfl))⟩
  f70:=⟨Tryz.f146.name,by decide,Tryz.func146.trans (congrArg some (by kernel_rfl))⟩
  f71:=⟨Tryz.f147.name,by decide,Tryz.func147.trans (congrArg some (by kernel_rfl))⟩
  f72:=⟨Tryz.f148.name,by decide,Tryz.func148.trans (congrArg some (by kernel_rfl))⟩
  f73:=⟨Tryz.f149.name,by decide,Tryz.func149.trans (congrArg some (by kernel_rfl))⟩
  f74:=⟨Tryz.f150.name,by decide,Tryz.func150.trans (congrArg some (by kernel_rfl))⟩
  f75:=⟨Tryz.f151.name,by decide,Tryz.func151.trans (congrArg some (by kernel_rfl))⟩
  f76:=⟨Tryz.f153.name,by decide,Tryz.func153.trans (congrArg some (by kernel_rfl))⟩
  f77:=⟨Tryz.f154.name,by decide,Tryz.func154.trans (congrArg some (by kernel_rfl))⟩
  f78:=Tryz.func155.trans (congrArg some (by kernel_rfl))
  f79:=Tryz.func156.trans (congrArg some (by kernel_rfl))
  f88:=⟨Tryz.f177.name,by decide,Tryz.func177.trans (congrArg some (by kernel_rfl))⟩
  f89:=Tryz.func178.trans (congrArg some (by kernel_rfl))
  f90:=Tryz.func179.trans (congrArg some (by kernel_rfl))
  f91:=⟨Tryz.f180.name,by decide,Tryz.func180.trans (congrArg some (by kernel_rfl))⟩
  f92:=⟨Tryz.f181.name,by decide,Tryz.func181.trans (congrArg some (by kernel_rfl))⟩
  f96:=⟨Tryz.f201.name,by decide,Tryz.func201.trans (congrArg some (by kernel_rfl))⟩
  t0:=Tryz.underlying0
  a0:=Tryz.isAgg0
  z0:=Tryz.sizeOf0
  v0:=Tryz.zeroValue0
  t3:=Tryz.underlying3
  a3:=Tryz.isAgg3
  z3:=Tryz.sizeOf3
  v3:=Tryz.zeroValue3
  t4:=Tryz.underlying4
  a4:=Tryz.isAgg4
  z4:=Tryz.sizeOf4
  v4:=Tryz.zeroValue4
  t5:=Tryz.underlying5
  a5:=Tryz.isAgg5
  z5:=Tryz.sizeOf5
  v5:=Tryz.zeroValue5
  t9:=Tryz.underlying9
  a9:=Tryz.isAgg9
  z9:=Tryz.sizeOf9
  v9:=Tryz.zeroValue9
  t22:=Tryz.underlying46
  a22:=Tryz.isAgg46
  z22:=Tryz.sizeOf46
  v22:=Tryz.zeroValue46
  t23:=Tryz.underlying2
  a23:=Tryz.isAgg2
  z23:=Tryz.sizeOf2
  v23:=Tryz.zeroValue2
  t44:=Tryz.underlying216
  a44:=Tryz.isAgg216
  z44:=Tryz.sizeOf216
  v44:=Tryz.zeroValue216
  t51:=Tryz.underlying162
  a51:=Tryz.isAgg162
  z51:=Tryz.sizeOf162
  v51:=Tryz.zeroValue162
  t60:=Tryz.underlying211
  a60:=Tryz.isAgg211
  z60:=Tryz.sizeOf211
  v60:=Tryz.zeroValue211
  t61:=Tryz.underlying212
  a61:=Tryz.isAgg212
  z61:=Tryz.sizeOf212
  v61:=Tryz.zeroValue212
  t67:=Tryz.underlying219
  a67:=Tryz.isAgg219
  z67:=Tryz.sizeOf219
  v67:=Tryz.zeroValue219
  t69:=Tryz.underlying116
  a69:=Tryz.isAgg116
  z69:=Tryz.sizeOf116
  v69:=Tryz.zeroValue116
  t75:=Tryz.underlying237
  a75:=Tryz.isAgg237
  z75:=Tryz.sizeOf237
  v75:=Tryz.zeroValue237
  t79:=Tryz.underlying241
  a79:=Tryz.isAgg241
  z79:=Tryz.sizeOf241
  v79:=Tryz.zeroValue241
  t83:=Tryz.underlying259
  a83:=Tryz.isAgg259
  z83:=Tryz.sizeOf259
  v83:=Tryz.zeroValue259
  t84:=Tryz.underlying260
  a84:=Tryz.isAgg260
  z84:=Tryz.sizeOf260
  v84:=Tryz.zeroValue260 }
end Go.Proofs.YtfmnjkpddljdcaaGreatDoor
namespace Go.Proofs.YtfmnjkpddljdcaaGreatDoor
set_option linter.unusedVariables false
set_option linter.unusedSimpArgs false
set_option maxRecDepth 100000
open Go.RowKit Go.Sort Go.Lib
theorem xRk {E B:Nat} {w:World} {v:Value} {l:List Int} {rb:List Nat} (A:Row 1 xM E B w v l rb []) (hl:0<l.length) :
    ∃ g cap cur,v= .slice (some ⟨g,0,none⟩) l.length cap∧rb=[g]∧gM w g cur E∧l.length≤cap∧cap≤maxLen∧cur.size=cap∧(∀ (i:Nat) (x:Int),l[i]?=some x→cur[i]?=some (Value.int .i64 x))∧∀ x∈l,xS x:=by
  obtain⟨xs,bss,ho,hbl,hfl,he⟩:=A.row;have hrb:=A.hrb
  have hat:∀ (i:Nat) (x:Int),l[i]?=some x→xs[i]?=some (.int .i64 x)∧xS x:=by
    intro i x hx;have hi:=(List.getElem?_eq_some_iff.1 hx).1;obtain⟨h1,h2,_⟩:=he i x bss[i] hx (List.getElem?_eq_getElem (by omega));exact⟨by simpa using h1,h2⟩
  rcases ho.2 with ⟨rfl,hn⟩ | ⟨g,cap,cur,rfl,hbg,hg,h4,h5,h6,h7⟩
  · omega
  · refine⟨g,cap,cur,rfl,?_,hg,h4,h5,by omega,fun i x hx=>?_,fun x hx=>?_⟩
    · rw[hrb];simp [tC,Value.ownBlock]
    · have hi:=(List.getElem?_eq_some_iff.1 hx).1
      have:=(hat i x hx).1;rw[← h7,List.getElem?_take,if_pos (by omega)] at this
      simpa using this
    · obtain⟨i,hi,rfl⟩:=List.mem_iff_getElem.1 hx
      exact(hat i _ (List.getElem?_eq_getElem hi)).2
theorem xPs {E g cap:Nat} {w:World} {l:List Int} {cur:Array Value} (hK:gM w g cur E) (h4:l.length≤cap) (h5:cap≤maxLen) (h6:cur.size=cap) (h7:∀ (i:Nat) (x:Int),l[i]?=some x→cur[i]?=some (Value.int .i64 x)) (hI:∀ x∈l,xS x) :
    Row 1 xM E 0 w (.slice (some ⟨g,0,none⟩) l.length cap) l [g] []:=by
  refine⟨⟨l.map (fun x=>Value.int .i64 x),List.replicate l.length [],⟨by simp,.inr ⟨g,cap,cur,rfl,Nat.zero_le _,hK,h4,h5,by omega,?_⟩⟩,by simp,by simp,fun i x bi hx hb=>?_⟩,by simp [tC,Value.ownBlock],kD.nil _,Dj.nil _⟩
  · refine List.ext_getElem? (fun m=>?_)
    rw[List.getElem?_take,List.getElem?_map]
    split
    · rename_i hm
      have:l[m]?=some (l[m]'(by omega)):=List.getElem?_eq_getElem (by omega);rw[Array.getElem?_toList,this,h7 m _ this]
      rfl
    · rename_i hm
      rw[List.getElem?_eq_none (by omega)]
      rfl
  · have hb2:=List.eq_of_mem_replicate (List.mem_of_getElem? hb)
    refine⟨?_,hI x (List.mem_of_getElem? hx),hb2⟩
    show(List.map (fun x=>Value.int .i64 x) l)[i*1+0]?=_
    rw[Nat.mul_one,Nat.add_zero,List.getElem?_map,hx]
    rfl
theorem xEl {E g:Nat} {w:World} {cur:Array Value} (hK:gM w g cur E) (d:Array Int):gM (putRow (Value.int .i64) w g 0 d) g (putCells (Value.int .i64) 0 d cur) E∧Only [g] w (putRow (Value.int .i64) w g 0 d):=by
  have hlt:=hK.lt
  unfold gM at hK ⊢
  unfold putRow mapBlock
  refine⟨?_,rfl,rfl,rfl,?_,fun k hk hn=>?_⟩
  · simp only[Array.getElem?_modify,if_true,hK]
    rfl
  · simp
  · simp only[Array.getElem?_modify]
    rw[if_neg (fun e=>hn (by simp [e]))]
theorem xLi {E B:Nat} {w:World} {v:Value} {l:List Int} {rb:List Nat} (A:Row 1 xM E B w v l rb []) (hl:l.length=0):∃ p cap,v= .slice p 0 cap:=by
  obtain⟨xs,bss,ho,_⟩:=A.row
  rcases ho.2 with ⟨rfl,hn⟩ | ⟨g,cap,cur,rfl,_⟩
  · exact⟨none,0,rfl⟩
  · exact⟨_,cap,by rw[hl]⟩
theorem xHa (p:Option Addr) (cap:Nat) (w0:World):Calls Tryz.prog 77 #[.slice p 0 cap] w0 (fun e w'=>e= .returned (.slice p 0 cap)∧w'=w0):=by
  refine xW (L:=[(0,.slice p 0 cap)]) Tryz.func77 rfl rfl rfl (sc rfl sn) (fun a F=>?_);refine xG (oO (xIw F rfl rfl fun a F=>vP (xH (xG (xG (oO (xPz F rfl rfl (fun a F=>?_))))))));refine kJ (v:=.int .i64 0) (w':=w0) F rfl ?_ (fun a F=>?_)
  · rw[BigFrame.execOp_builtin,BigFrame.builtin_len]
    simp only[List.map_toArray,List.map_cons,List.map_nil,F.ev (x:=.tmp 6) (v:=.slice p 0 cap) rfl]
    simp [Builtin.len_,run_underlying Tryz.underlying46]
    rfl
  refine xVm F rfl rfl rfl fun a F=>vP (xH (vK F rfl (fun hb=>?_) (fun hb=>absurd hb (by decide))));exact xG (oO (xPz F rfl rfl fun a F=>xIw F rfl rfl fun a F=>vP (xH (xP (qH (xR F rfl (xZ F rfl) ⟨rfl,rfl⟩))))))
def aW (x0:List Int):Option (List Int):=
  if x0.length≤1048576 then some (compactUpTo x0.toArray x0.length) else none
theorem xCe (d:Array Int) (m:Nat):(compactUpTo d m).length≤m:=by
  unfold compactUpTo
  rw[List.length_map];exact Nat.le_trans (List.length_filter_le _ _) (by simp)
theorem mV {x0:List Int} (r:List Int) (hR:aW x0=some r) {v0:Value} {rb0:List Nat} (w0:World) (A0:Row 1 xM 2 0 w0 v0 x0 rb0 []):Calls Tryz.prog 77 #[v0] w0 (xKf rb0 (fun v w'=>∃ (v1':Value) (rb2':List Nat),v=v1'∧Row 1 xM 2 0 w' v1' r rb2' []∧Frs rb0 w0.heap.size rb2') w0):=by
  unfold aW at hR
  split at hR
  case isFalse=>cases hR
  rename_i hc;obtain rfl:=Option.some.inj hR
  clear hR
  rcases Nat.eq_zero_or_pos x0.length with hz | hz
  · obtain⟨p,cap,rfl⟩:=xLi A0 hz
    obtain rfl:=List.length_eq_zero_iff.1 hz;refine(xHa p cap w0).mono ?_
    rintro e w' ⟨rfl,rfl⟩
    exact⟨_,rfl,Only.refl _ _,_,rb0,rfl,A0,Frs.mem (fun c hc=>hc)⟩
  obtain⟨g,cap,cur,rfl,rfl,hK,hle,hmx,hsz,hcur,hI⟩:=xRk A0 hz
  have hH:Holds (Value.int .i64) w0 g 0 x0.toArray:=by
    intro j hj
    have hj':j<x0.length:=by simpa using hj
    refine⟨?_,hK.frozen _⟩;rw[Nat.zero_add,hK.cell,hcur j _ (List.getElem?_eq_getElem hj'),getElem!_pos x0.toArray j hj]
    simp
  have h:=AnyE.slices_Compact layC (Value.int .i64) (fun x=>rfl) (EqlAt.int _ _ _) (NeqAt.int _ _ _) 0 Tryz.zeroValue2 g 0 cap x0.toArray w0 hH (by simp;omega) (by simpa using hle);refine(show Calls Tryz.prog 77 #[.slice (some ⟨g,0,none⟩) x0.length cap] w0 _ from by simpa [xJd] using h).mono ?_
  rintro e w' ⟨rfl,q,rfl⟩
  have hln:=xCe x0.toArray x0.length;have hK1:gM (Go.Sort.ahead w0 q) g cur 2:=hK;have hq:Only [g] w0 (Go.Sort.ahead w0 q):=⟨rfl,rfl,rfl,Nat.le_refl _,fun _ _ _=>rfl⟩;obtain⟨k1,k2⟩:=xEl hK1 (compactUpTo x0.toArray x0.length++List.replicate (x0.length - (compactUpTo x0.toArray x0.length).length) 0).toArray;refine⟨_,rfl,hq.trans k2,_,[g],rfl,xPs k1 (by omega) hmx (by simp [putCells,hsz]) (fun i x hx=>?_) (fun x hx=>?_),Frs.mem (fun c hc=>hc)⟩
  · have hi:=(List.getElem?_eq_some_iff.1 hx).1
    have hsz2:i<cur.size:=by omega
    unfold putCells
    rw[Array.getElem?_mapIdx,Array.getElem?_eq_getElem hsz2,Option.map_some,if_pos ⟨Nat.zero_le _,by simp;omega⟩,Nat.sub_zero]
    have hg:((compactUpTo x0.toArray x0.length++List.replicate (x0.length - (compactUpTo x0.toArray x0.length).length) 0).toArray)[i]! = x:=by
      rw[getElem!_pos _ _ (by simp;omega)];simp only[List.getElem_toArray];rw[List.getElem_append_left hi];exact(List.getElem?_eq_some_iff.1 hx).2
    rw[hg]
  · unfold compactUpTo at hx
    obtain⟨j,hj,rfl⟩:=List.mem_map.1 hx
    have hj2:j<x0.length:=by
      have:=(List.mem_filter.1 hj).1
      simpa using this
    rw[getElem!_pos _ _ (by simpa using hj2)];exact hI _ (by simp)
end Go.Proofs.YtfmnjkpddljdcaaGreatDoor
namespace Go.Proofs.YtfmnjkpddljdcaaGreatDoor
set_option linter.unusedVariables false
set_option linter.unusedSimpArgs false
set_option maxRecDepth 100000
open Go.RowKit Go.Sort Go.Lib
def bW (x0:List Int):Option (List Int):=
  if x0.length≤1048576 then some (x0.mergeSort fun x y=>decide (x≤y)) else none
theorem pB {x0:List Int} (r:List Int) (hR:bW x0=some r) {v0:Value} {rb0:List Nat} (w0:World) (A0:Row 1 xM 2 0 w0 v0 x0 rb0 []):Calls Tryz.prog 76 #[v0] w0 (xKf rb0 (fun v w'=>v= .tuple #[]∧Row 1 xM 2 0 w' v0 r rb0 []) w0):=by
  unfold bW at hR
  split at hR
  case isFalse=>cases hR
  rename_i hc;obtain rfl:=Option.some.inj hR
  clear hR
  rcases Nat.eq_zero_or_pos x0.length with hz | hz
  · obtain⟨p,cap,rfl⟩:=xLi A0 hz
    obtain rfl:=List.length_eq_zero_iff.1 hz;refine(show Calls Tryz.prog 76 #[.slice p 0 cap] w0 _ from by simpa [xDn] using AnyG.slices_Sort_int_none xWa p cap w0).mono ?_
    rintro e w' ⟨rfl,rfl⟩
    exact⟨_,rfl,Only.refl _ _,rfl,by rw[List.mergeSort_nil];exact A0⟩
  obtain⟨g,cap,cur,rfl,rfl,hK,hle,hmx,hsz,hcur,hI⟩:=xRk A0 hz
  have hH:Holds (Value.int .i64) w0 g 0 x0.toArray:=by
    intro j hj
    have hj':j<x0.length:=by simpa using hj
    refine⟨?_,hK.frozen _⟩;rw[Nat.zero_add,hK.cell,hcur j _ (List.getElem?_eq_getElem hj'),getElem!_pos x0.toArray j hj]
    simp
  have h:=AnyG.slices_Sort_int xWa g 0 cap x0 w0 hH hK.lt (by omega);refine(show Calls Tryz.prog 76 #[.slice (some ⟨g,0,none⟩) x0.length cap] w0 _ from by simpa [xDn] using h).mono ?_
  rintro e w' ⟨rfl,q,os,rfl⟩
  have hln:(x0.mergeSort fun x y=>decide (x≤y)).length=x0.length:=List.length_mergeSort _;obtain⟨m,hm⟩:∃ m,m=x0.mergeSort fun x y=>decide (x≤y):=⟨_,rfl⟩
  have hmem:∀ x∈m,x∈x0:=fun x hx=>by rw[hm] at hx;exact List.mem_mergeSort.1 hx
  rw[← hm] at hln ⊢;have hK1:gM (Go.Sort.ahead w0 q) g cur 2:=hK;have hq:Only [g] w0 (Go.Sort.ahead w0 q):=⟨rfl,rfl,rfl,Nat.le_refl _,fun _ _ _=>rfl⟩;obtain⟨k1,k2⟩:=xEl hK1 m.toArray;have hq2:=hq.trans k2
  have hg:Only [g] w0 (grow (putRow (Value.int .i64) (Go.Sort.ahead w0 q) g 0 m.toArray) os):=by
    refine hq2.trans ⟨rfl,rfl,rfl,by simp [grow],fun k hk _=>heap_grow_old _ _ hk⟩
  have k3:gM (grow (putRow (Value.int .i64) (Go.Sort.ahead w0 q) g 0 m.toArray) os) g (putCells (Value.int .i64) 0 m.toArray cur) 2:=by
    unfold gM at k1 ⊢
    rw[heap_grow_old _ _ (iS k1),k1]
  have R:=xPs (l:=m) k3 (by omega) hmx (by simp [putCells,hsz]) (fun i x hx=>by
    have hi:=(List.getElem?_eq_some_iff.1 hx).1
    have hsz2:i<cur.size:=by omega
    unfold putCells
    rw[Array.getElem?_mapIdx,Array.getElem?_eq_getElem hsz2,Option.map_some,if_pos ⟨Nat.zero_le _,by simp;omega⟩,Nat.sub_zero]
    have hg:(m.toArray)[i]! = x:=by
      rw[getElem!_pos m.toArray i (by simpa using hi)];simp only[List.getElem_toArray];exact(List.getElem?_eq_some_iff.1 hx).2
    rw[hg]) (fun x hx=>hI x (hmem x hx))
  rw[hln] at R;exact⟨_,rfl,hg,rfl,R⟩
end Go.Proofs.YtfmnjkpddljdcaaGreatDoor
namespace Go.Proofs.YtfmnjkpddljdcaaGreatDoor
set_option linter.unusedVariables false
set_option linter.unusedSimpArgs false
open Go.RowKit
section
variable {ops:Array Oper} {Q:Exit→Act→World→Prop} {a:Act} {w w0:World} {n:Nat} {L:List (Nat×Value)} {rest:List Oper} {d:Nat} {dd:Option Tmp} {ty:TypeId} {pos:String} {af:Array Edge} {g:Option (Nat×Bool)} {N:Nat→Prop} {X:List Nat} {D:List As} {P:Program}
theorem xWb {xs:List Operand} {at':Array TypeId} {v:Value} {l r:List Int} (F:Sk a n L) (hc:aV ops n L g d=true) (hf:∀ args w,(callFunc 76 args).run Tryz.prog w= .ok (.enter 76 args) w) (e:evs L xs=some [v]) (H:Sep X N w0 w (rl 1 xM 2 v l::D)) (hr:bW l=some r)
    (k:∀ a' w',Sep X N w0 w' (rl 1 xM 2 v r::D)→Sk a' n ((d,.tuple #[])::L)→wpList Tryz.prog ops Q rest a' w'):wpList Tryz.prog ops Q (⟨some d,.call ⟨.value (.func 76),xs.toArray,at'⟩,ty,pos,af,g⟩::rest) a w:=by
  obtain⟨Y,⟨rb,ib,r1,ho,r2,r3⟩,hN,hY,tr⟩:=H.hd;obtain rfl:=tX r1;refine xIb F hc hf e (pB r hr w r1) (fun a' v' w' l' ⟨hv,q⟩ F'=>?_);subst hv;exact k a' w' (tr (Z:=rb) r2 l' (B:=rl 1 xM 2 v r) (Y1:=Y) ⟨rb,[],q,Own.nil _ _,r2,fun _ h=>nomatch h⟩ n0 (fun c hc=>⟨.inl hc,Nat.lt_of_lt_of_le (hY c hc).1 l'.size⟩)) F'
theorem xOc {xs:List Operand} {at':Array TypeId} {v:Value} {l r:List Int} (F:Sk a n L) (hc:aV ops n L g d=true) (hf:∀ args w,(callFunc 77 args).run Tryz.prog w= .ok (.enter 77 args) w) (e:evs L xs=some [v]) (H:Sep X N w0 w (rl 1 xM 2 v l::D)) (hr:aW l=some r)
    (k:∀ a' w' v',Sep X N w0 w' (rl 1 xM 2 v' r::D)→Sk a' n ((d,v')::L)→wpList Tryz.prog ops Q rest a' w'):wpList Tryz.prog ops Q (⟨some d,.call ⟨.value (.func 77),xs.toArray,at'⟩,ty,pos,af,g⟩::rest) a w:=by
  obtain⟨Y,⟨rb,ib,r1,ho,r2,r3⟩,hN,hY,tr⟩:=H.hd;obtain rfl:=tX r1;refine xIb F hc hf e (mV r hr w r1) (fun a' v' w' l' ⟨v1,rb2,hv,q,hfr⟩ F'=>?_);subst hv;refine k a' w' v' (tr (Z:=rb) r2 l' (B:=rl 1 xM 2 v' r) (Y1:=Y++rb2) ⟨rb2,[],q,Own.nil _ _,fun c hc=>List.mem_append_right _ hc,fun _ h=>nomatch h⟩ n0 (fun c hc=>?_)) F'
  rcases List.mem_append.1 hc with hc | hc
  · exact⟨.inl hc,Nat.lt_of_lt_of_le (hY c hc).1 l'.size⟩
  · exact⟨(hfr c hc).imp (r2 c) id,q.memR c hc⟩
end
end Go.Proofs.YtfmnjkpddljdcaaGreatDoor
