import Derived.WalkKit
import Derived.WalkSpells
import Derived.WalkLawsBesides
namespace Go.Proofs.YtlommebgedmjdaaGreatDoor
universe u
set_option linter.unusedVariables false
set_option linter.unusedSimpArgs false
open Go.RowKit
structure Hd (p:Prop):Prop where
  out:p
theorem hd {p:Prop} (h:p):Hd p:=⟨h⟩
def xH (n:Int):Prop:=-9223372036854775808≤n∧n≤9223372036854775807
theorem _root_.Go.RowKit.Below.through {w p q:World} (l:Below p.heap.size p q) (h:Below w.heap.size w p):Below w.heap.size w q:=h.trans (l.mono h.size)
structure Only (bs:List Nat) (w w':World):Prop where
  os:w'.os=w.os
  tape:w'.tape=w.tape
  output:w'.output=w.output
  size:w.heap.size≤w'.heap.size
  block:∀ k,k<w.heap.size→k ∉ bs→w'.heap[k]?=w.heap[k]?
theorem Only.of_below {bs:List Nat} {w w':World} (h:Below w.heap.size w w'):Only bs w w':=⟨h.os,h.tape,h.output,h.size,fun k hk _=>h.block k hk⟩
theorem Only.refl (bs:List Nat) (w:World):Only bs w w:=⟨rfl,rfl,rfl,Nat.le_refl _,fun _ _ _=>rfl⟩
theorem Only.below {B:Nat} {bs:List Nat} {w w':World} (h:Only bs w w') (hB:B≤w.heap.size) (hbs:∀ b∈bs,B≤b):Below B w w':=
  ⟨h.os,h.tape,h.output,h.size,fun k hk=>h.block k (by omega) (fun hm=>by have:=hbs k hm;omega)⟩
theorem Only.trans {bs:List Nat} {a b c:World} (h:Only bs a b) (k:Only bs b c):Only bs a c:=
  ⟨k.os.trans h.os,k.tape.trans h.tape,k.output.trans h.output,Nat.le_trans h.size k.size,fun i hi hn=>(k.block i (by have:=h.size;omega) hn).trans (h.block i hi hn)⟩
theorem Only.mono {bs cs:List Nat} {w w':World} (h:Only bs w w') (hs:∀ b∈bs,b∈cs):Only cs w w':=
  ⟨h.os,h.tape,h.output,h.size,fun k hk hn=>h.block k hk (fun hm=>hn (hs k hm))⟩
def cR (bs:List Nat) (w w':World):Prop:=∀ b∈bs,w'.heap[b]?=w.heap[b]?
def qM (bs:List Nat) (w:World):Prop:=∀ b∈bs,b<w.heap.size
def Own (B:Nat) (bs:List Nat) (w:World):Prop:=bs.Nodup∧∀ b∈bs,B≤b∧∃ cur e,w.heap[b]?=some (.cells cur e (0,0))
theorem mJ {w:World} {b:Nat} {o:Obj} (h:w.heap[b]?=some o):b<w.heap.size:=(Array.getElem?_eq_some_iff.1 h).1
theorem Own.inMem {B:Nat} {bs:List Nat} {w:World} (h:Own B bs w):qM bs w:=fun b hb=>let ⟨_,_,_,he⟩:=h.2 b hb;mJ he
theorem qM.nil (w:World):qM [] w:=fun _ h=>by cases h
theorem Own.nil (B:Nat) (w:World):Own B [] w:=⟨List.nodup_nil,fun _ h=>by cases h⟩
theorem Own.mono {B C:Nat} {bs:List Nat} {w:World} (h:Own B bs w) (hC:C≤B):Own C bs w:=⟨h.1,fun b hb=>⟨Nat.le_trans hC (h.2 b hb).1,(h.2 b hb).2⟩⟩
theorem Own.same {B:Nat} {bs:List Nat} {w w':World} (h:Own B bs w) (hs:cR bs w w'):Own B bs w':=⟨h.1,fun b hb=>⟨(h.2 b hb).1,by rw[hs b hb];exact(h.2 b hb).2⟩⟩
theorem Own.sameBelow {B:Nat} {bs:List Nat} {w w':World} (h:Own B bs w) (hs:Below w.heap.size w w'):Own B bs w':=h.same fun b hb=>hs.block b (h.inMem b hb)
theorem qM.same {bs:List Nat} {w w':World} (h:qM bs w) (hs:Below w.heap.size w w'):cR bs w w':=fun b hb=>hs.block b (h b hb)
theorem qM.le {bs:List Nat} {w w':World} (h:qM bs w) (hs:w.heap.size≤w'.heap.size):qM bs w':=fun b hb=>Nat.lt_of_lt_of_le (h b hb) hs
theorem Own.append {B:Nat} {bs cs:List Nat} {w:World} (h:Own B bs w) (k:Own B cs w) (hd:∀ b∈bs,b ∉ cs):Own B (bs++cs) w:=
  ⟨List.nodup_append.2 ⟨h.1,k.1,fun a ha b hb e=>hd a ha (e ▸ hb)⟩,fun b hb=>(List.mem_append.1 hb).elim (h.2 b) (k.2 b)⟩
theorem cR.refl (bs:List Nat) (w:World):cR bs w w:=fun _ _=>rfl
theorem cR.trans {bs:List Nat} {a b c:World} (h:cR bs a b) (k:cR bs b c):cR bs a c:=fun x hx=>(k x hx).trans (h x hx)
theorem cR.set {bs:List Nat} {w w':World} (h:cR bs w w') {a:Addr} (ha:∀ b∈bs,b≠a.block) (u:Value):cR bs w (w'.setCell a u):=fun x hx=>by rw[Below.heap_setCell _ _ _ _ (ha x hx)];exact h x hx
theorem cR.only {bs cs:List Nat} {w w' w'':World} (h:cR bs w w') (hb:qM bs w') (hd:∀ x∈bs,x ∉ cs) (l:Only cs w' w''):cR bs w w'':=fun x hx=>(l.block x (hb x hx) (hd x hx)).trans (h x hx)
theorem qM.append {bs cs:List Nat} {w:World} (h:qM bs w) (k:qM cs w):qM (bs++cs) w:=fun b hb=>(List.mem_append.1 hb).elim (h b) (k b)
theorem tJ (w:World) (b o:Nat) (v:Value) (cur:Array Value) (e:TypeId) (fr:Nat×Nat) (h:w.heap[b]?=some (.cells cur e fr)):(w.setCell ⟨b,o,none⟩ v).heap[b]?=some (.cells (cur.setIfInBounds o v) e fr):=by
  simp [World.setCell,Array.getElem?_modify,h]
def fI (w:World) (b:Nat) (arr:Array Value) (T:TypeId):Prop:=w.heap[b]?=some (.cells arr T (0,0))
theorem fI.cell {w:World} {b:Nat} {arr:Array Value} {T:TypeId} (h:fI w b arr T) (j:Nat):w.cell? ⟨b,j,none⟩=arr[j]?:=by unfold fI at h;simp [World.cell?,h]
theorem fI.frozen {w:World} {b:Nat} {arr:Array Value} {T:TypeId} (h:fI w b arr T) (j:Nat):w.frozen? ⟨b,j,none⟩=false:=by unfold fI at h;simp [World.frozen?,h]
theorem fI.lt {w:World} {b:Nat} {arr:Array Value} {T:TypeId} (h:fI w b arr T):b<w.heap.size:=mJ h
theorem fI.new {w:World} {b:Nat} {arr:Array Value} {T:TypeId} (h:b=w.heap.size):fI (w.alloc (.cells arr T)) b arr T:=by subst h;exact heap_alloc_new w _
theorem fI.only {w w':World} {b:Nat} {bs:List Nat} {arr:Array Value} {T:TypeId} (h:fI w b arr T) (l:Only bs w w') (hb:b ∉ bs):fI w' b arr T:=(l.block b h.lt hb).trans h
theorem fI.set_at {w:World} {b j:Nat} {arr arr':Array Value} {T:TypeId} {u:Value} (h:fI w b arr T) (e:arr.setIfInBounds j u=arr'):fI (w.setCell ⟨b,j,none⟩ u) b arr' T:=by subst e;exact tJ w b j u arr T (0,0) h
abbrev ER (α:Type):=World→(Nat→Option Value)→α→List Nat→Prop
def Fr {α:Type} (sz:Nat) (R:ER α):Prop:=∀ w w' f g x bs,R w f x bs→cR bs w w'→(∀ j,j<sz→g j=f j)→R w' g x bs
def Els {α:Type} (sz:Nat) (R:ER α) (w:World) (b o:Nat) (l:List α) (bss:List (List Nat)):Prop:=
  bss.length=l.length∧∀ i x bi,l[i]?=some x→bss[i]?=some bi→R w (fun j=>w.cell? ⟨b,o+i*sz+j,none⟩) x bi
def Sl {α:Type} (sz:Nat) (R:ER α) (w:World) (v:Value) (l:List α) (bs:List Nat):Prop:=
  ∃ a c,v= .slice a l.length c∧l.length≤c∧c≤maxLen∧(a=none→c=0) ∧
    ((l=[]∧bs=[])∨∃ b o bss,a=some ⟨b,o,none⟩∧bs=b::bss.flatten∧Els sz R w b o l bss)
theorem jR {w w':World} {b:Nat} (h:w'.heap[b]?=w.heap[b]?) (o:Nat):w'.cell? ⟨b,o,none⟩=w.cell? ⟨b,o,none⟩:=World.cell?_of_block (w:=w) (a:=⟨b,o,none⟩) h
theorem Els.same {α:Type} {sz:Nat} {R:ER α} (hR:Fr sz R) {w w':World} {b o:Nat} {l:List α} {bss:List (List Nat)} (h:Els sz R w b o l bss) (hb:w'.heap[b]?=w.heap[b]?) (hs:cR bss.flatten w w'):Els sz R w' b o l bss:=
  ⟨h.1,fun i x bi hx hi=>hR w w' _ _ x bi (h.2 i x bi hx hi) (fun c hc=>hs c (List.mem_flatten.2 ⟨bi,List.mem_of_getElem? hi,hc⟩)) (fun _ _=>jR hb _)⟩
theorem Sl.same {α:Type} {sz:Nat} {R:ER α} (hR:Fr sz R) {w w':World} {v:Value} {l:List α} {bs:List Nat} (h:Sl sz R w v l bs) (hs:cR bs w w'):Sl sz R w' v l bs:=by
  obtain⟨a,c,rfl,h1,h2,h3,h4⟩:=h;refine⟨a,c,rfl,h1,h2,h3,?_⟩
  rcases h4 with h4 | ⟨b,o,bss,rfl,rfl,he⟩
  · exact .inl h4
  · exact .inr ⟨b,o,bss,rfl,rfl,he.same hR (hs b (by simp)) (fun c hc=>hs c (by simp [hc]))⟩
theorem Sl.open {α:Type} {sz:Nat} {R:ER α} {w:World} {v:Value} {l:List α} {bs:List Nat} (h:Sl sz R w v l bs) :
    ∃ a c,v= .slice a l.length c∧l.length≤c∧c≤9223372036854775807∧(a=none→c=0) ∧
      ∀ k,(hk:k<l.length)→∃ b o bss bi,a=some ⟨b,o,none⟩∧bs=b::bss.flatten∧Els sz R w b o l bss∧bss[k]?=some bi∧(∀ c∈bi,c∈bs)∧R w (fun j=>w.cell? ⟨b,o+k*sz+j,none⟩) l[k] bi:=by
  obtain⟨a,c,rfl,h1,h2,h3,h4⟩:=h;refine⟨a,c,rfl,h1,by unfold maxLen at h2;omega,h3,fun k hk=>?_⟩
  rcases h4 with ⟨rfl,rfl⟩ | ⟨b,o,bss,rfl,rfl,he⟩
  · simp at hk
  · have hl:k<bss.length:=by rw[he.1];exact hk
    exact⟨b,o,bss,bss[k],rfl,rfl,he,List.getElem?_eq_getElem hl,fun c hc=>List.mem_cons_of_mem _ (List.mem_flatten.2 ⟨_,List.getElem_mem hl,hc⟩),he.2 k _ _ (List.getElem?_eq_getElem hk) (List.getElem?_eq_getElem hl)⟩
def xG:ER Int:=fun _ f x bs=>f 0=some (.int .i64 x)∧xH x∧bs=[]
theorem xG.fr:Fr 1 xG:=fun _ _ _ _ _ _ h _ hg=>⟨(hg 0 (by omega)).trans h.1,h.2⟩
def fG {α:Type} (sz:Nat) (R:ER α):ER (List α):=fun w f l bs=>∃ v,f 0=some v∧Sl sz R w v l bs
theorem fG.fr {α:Type} {sz:Nat} {R:ER α} (hR:Fr sz R):Fr 1 (fG sz R):=fun _ _ _ _ _ _ ⟨v,h0,h⟩ hs hg=>⟨v,(hg 0 (by omega)).trans h0,h.same hR hs⟩
abbrev dM:=fG 1 xG
theorem dM.fr:Fr 1 dM:=fG.fr xG.fr
def qG {α:Type} (sz:Nat) (R:ER α) (w:World) (v:Value) (x:α) (bs:List Nat):Prop:=∃ cs:List Value,cs.length=sz∧v= .agg cs.toArray∧R w (fun j=>cs[j]?) x bs
theorem qG.same {α:Type} {sz:Nat} {R:ER α} (hR:Fr sz R) {w w':World} {v:Value} {x:α} {bs:List Nat} (h:qG sz R w v x bs) (hs:cR bs w w'):qG sz R w' v x bs:=
  let ⟨cs,hl,hv,hr⟩:=h;⟨cs,hl,hv,hR _ _ _ _ _ _ hr hs (fun _ _=>rfl)⟩
theorem qG.of_cells {α:Type} {sz:Nat} {R:ER α} (hR:Fr sz R) {w:World} {f:Nat→Option Value} {x:α} {bs:List Nat} (h:R w f x bs) (cs:List Value) (hl:cs.length=sz) (hc:∀ j,j<sz→cs[j]?=f j):qG sz R w (.agg cs.toArray) x bs:=
  ⟨cs,hl,rfl,hR _ _ _ _ _ _ h (fun _ _=>rfl) hc⟩
theorem Sl.val {α:Type} {sz:Nat} {R:ER α} {w:World} {v:Value} {l:List α} {bs:List Nat} (h:Sl sz R w v l bs):∃ a c,v= .slice a l.length c:=let ⟨a,c,hv,_⟩:=h;⟨a,c,hv⟩
theorem Own.cell0 {w:World} {b:Nat} {cur:Array Value} {e:TypeId} (h:w.heap[b]?=some (.cells cur e (0,0))) (o:Nat):w.cell? ⟨b,o,none⟩=cur[o]?∧w.frozen? ⟨b,o,none⟩=false:=by
  simp [World.cell?,World.frozen?,h]
theorem xZe {P:Program} {t e:TypeId} {z:Value} {size bytes:Nat} (ht:P.underlying t=some (.slice e)) (hinfo:(P.info? e).map (fun i=>(i.zero,i.size,i.bytes))=some (some z,size,bytes))
    (n:Nat) (hbytes:bytes*n≤281474976710656) (h63:n≤9223372036854775807) (w:World) :
    (Instr.makeSlice t (.int .i64 (n:Int)) (.int .i64 (n:Int))).run P w= .ok (.slice (some ⟨w.heap.size,0,none⟩) n n) (w.alloc (.cells (madeCells z.cells (n*size)) e)):=by
  obtain⟨i,hi,hzz⟩:=Option.map_eq_some_iff.1 hinfo;simp only[Prod.mk.injEq] at hzz;obtain⟨hz,hs,hb⟩:=hzz
  have hb':(i.bytes:Int)*(n:Int)≤281474976710656:=by
    have h:((i.bytes*n:Nat):Int)≤281474976710656:=by rw[hb];omega
    rwa [Int.natCast_mul] at h
  have hr:=run_make (P:=P) w t e i z ht hi hz .i64 .i64 n n (by omega) (Int.le_refl _) hb' (by omega);simp only[Int.toNat_natCast,hs] at hr;exact hr
def xLo {α:Type} (c:α→Nat) (l:List α):Nat:=(l.map c).sum
section
variable {α:Type} {c:α→Nat} {m:α→Int→α}
theorem xHt (x:α) (l:List α):xLo c (x::l)=c x+xLo c l:=by simp [xLo]
end
def cI (_:Int):Nat:=1
theorem cntI (l:List Int):xLo cI l=l.length:=by
  induction l with
  | nil=>rfl
  | cons x r ih=>rw[xHt,ih,List.length_cons];unfold cI;omega
structure Upd (b lo hi:Nat) (bi:List Nat) (w w':World):Prop where
  only:Only (b::bi) w w'
  row:∃ cur e,w'.heap[b]?=some (.cells cur e (0,0))
  out:∀ m,(m<lo∨hi≤m)→w'.cell? ⟨b,m,none⟩=w.cell? ⟨b,m,none⟩
theorem Upd.refl {b lo hi:Nat} {bi:List Nat} {w:World} (h:∃ cur e,w.heap[b]?=some (.cells cur e (0,0))):Upd b lo hi bi w w:=⟨Only.refl _ _,h,fun _ _=>rfl⟩
theorem Upd.set {b lo hi:Nat} {bi:List Nat} {w w':World} (h:Upd b lo hi bi w w') {o:Nat} (ho:lo≤o∧o<hi) (u:Value):Upd b lo hi bi w (w'.setCell ⟨b,o,none⟩ u):=by
  obtain⟨cur,e,hc⟩:=h.row;refine⟨h.only.trans ⟨rfl,rfl,rfl,by simp,fun k _ hn=>Below.heap_setCell _ _ _ _ (fun hk=>hn (by simp [hk]))⟩,⟨_,_,tJ _ _ _ _ _ _ _ hc⟩,fun m hm=>?_⟩;rw[World.cell?_setCell_other _ _ _ _ (by intro h;injection h;omega)];exact h.out m hm
theorem Own.left {B:Nat} {x y:List Nat} {w:World} (h:Own B (x++y) w):Own B x w:=⟨(List.nodup_append.1 h.1).1,fun b hb=>h.2 b (List.mem_append_left _ hb)⟩
theorem Own.right {B:Nat} {x y:List Nat} {w:World} (h:Own B (x++y) w):Own B y w:=⟨(List.nodup_append.1 h.1).2.1,fun b hb=>h.2 b (List.mem_append_right _ hb)⟩
theorem Only.cell {bs:List Nat} {w w':World} (l:Only bs w w') {b:Nat} (hb:b ∉ bs) (hw:b<w.heap.size):∀ m,w'.cell? ⟨b,m,none⟩=w.cell? ⟨b,m,none⟩:=fun m=>jR (l.block b hw hb) m
def xDj (x:Value) (w:World) (e:Ending) (w':World):Prop:=e= .returned x∧Below w.heap.size w w'
theorem oj {α:Type u} {a b:α} (h:some a=some b):a=b:=Option.some.inj h
theorem ojs {α:Type u} {a b:α} (h:some a=some b):b=a:=(Option.some.inj h).symm
abbrev xI (x:Int):Value:=.int .i64 x
abbrev xU (b:Nat):Value:=.pointer (some ⟨b,0,none⟩)
abbrev cL:Value:=.slice none 0 0
end Go.Proofs.YtlommebgedmjdaaGreatDoor
