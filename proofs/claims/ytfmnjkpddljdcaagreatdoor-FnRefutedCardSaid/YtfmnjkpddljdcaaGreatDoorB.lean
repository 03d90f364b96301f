import Derived.WalkKit
import Derived.WalkSpells
import Derived.WalkLawsBesides
namespace Go.Proofs.YtfmnjkpddljdcaaGreatDoor
universe u
set_option linter.unusedVariables false
set_option linter.unusedSimpArgs false
open Go.RowKit
structure Hd (p:Prop):Prop where
  out:p
theorem hd {p:Prop} (h:p):Hd p:=⟨h⟩
def xS (n:Int):Prop:=-9223372036854775808≤n∧n≤9223372036854775807
theorem _root_.Go.RowKit.Below.through {w p q:World} (l:Below p.heap.size p q) (h:Below w.heap.size w p):Below w.heap.size w q:=h.trans (l.mono h.size)
structure Only (bs:List Nat) (w w':World):Prop where
  os:w'.os=w.os
  tape:w'.tape=w.tape
  output:w'.output=w.output
  size:w.heap.size≤w'.heap.size
  block:∀ k,k<w.heap.size→k ∉ bs→w'.heap[k]?=w.heap[k]?
theorem Only.of_below {bs:List Nat} {w w':World} (h:Below w.heap.size w w'):Only bs w w':=⟨h.os,h.tape,h.output,h.size,fun k hk _=>h.block k hk⟩
theorem Only.refl (bs:List Nat) (w:World):Only bs w w:=⟨rfl,rfl,rfl,Nat.le_refl _,fun _ _ _=>rfl⟩
theorem Only.below {B:Nat} {bs:List Nat} {w w':World} (h:Only bs w w') (hB:B≤w.heap.size) (hbs:∀ b∈bs,B≤b):Below B w w':=
  ⟨h.os,h.tape,h.output,h.size,fun k hk=>h.block k (by omega) (fun hm=>by have:=hbs k hm;omega)⟩
theorem Only.trans {bs:List Nat} {a b c:World} (h:Only bs a b) (k:Only bs b c):Only bs a c:=
  ⟨k.os.trans h.os,k.tape.trans h.tape,k.output.trans h.output,Nat.le_trans h.size k.size,fun i hi hn=>(k.block i (by have:=h.size;omega) hn).trans (h.block i hi hn)⟩
theorem Only.mono {bs cs:List Nat} {w w':World} (h:Only bs w w') (hs:∀ b∈bs,b∈cs):Only cs w w':=
  ⟨h.os,h.tape,h.output,h.size,fun k hk hn=>h.block k hk (fun hm=>hn (hs k hm))⟩
def eK (bs:List Nat) (w w':World):Prop:=∀ b∈bs,w'.heap[b]?=w.heap[b]?
def kD (bs:List Nat) (w:World):Prop:=∀ b∈bs,b<w.heap.size
def Own (B:Nat) (bs:List Nat) (w:World):Prop:=bs.Nodup∧∀ b∈bs,B≤b∧∃ cur e,w.heap[b]?=some (.cells cur e (0,0))
theorem iS {w:World} {b:Nat} {o:Obj} (h:w.heap[b]?=some o):b<w.heap.size:=(Array.getElem?_eq_some_iff.1 h).1
theorem Own.inMem {B:Nat} {bs:List Nat} {w:World} (h:Own B bs w):kD bs w:=fun b hb=>let ⟨_,_,_,he⟩:=h.2 b hb;iS he
theorem kD.nil (w:World):kD [] w:=fun _ h=>by cases h
theorem Own.nil (B:Nat) (w:World):Own B [] w:=⟨List.nodup_nil,fun _ h=>by cases h⟩
theorem Own.same {B:Nat} {bs:List Nat} {w w':World} (h:Own B bs w) (hs:eK bs w w'):Own B bs w':=⟨h.1,fun b hb=>⟨(h.2 b hb).1,by rw[hs b hb];exact(h.2 b hb).2⟩⟩
theorem Own.sameBelow {B:Nat} {bs:List Nat} {w w':World} (h:Own B bs w) (hs:Below w.heap.size w w'):Own B bs w':=h.same fun b hb=>hs.block b (h.inMem b hb)
theorem kD.same {bs:List Nat} {w w':World} (h:kD bs w) (hs:Below w.heap.size w w'):eK bs w w':=fun b hb=>hs.block b (h b hb)
theorem kD.le {bs:List Nat} {w w':World} (h:kD bs w) (hs:w.heap.size≤w'.heap.size):kD bs w':=fun b hb=>Nat.lt_of_lt_of_le (h b hb) hs
theorem Own.append {B:Nat} {bs cs:List Nat} {w:World} (h:Own B bs w) (k:Own B cs w) (hd:∀ b∈bs,b ∉ cs):Own B (bs++cs) w:=
  ⟨List.nodup_append.2 ⟨h.1,k.1,fun a ha b hb e=>hd a ha (e ▸ hb)⟩,fun b hb=>(List.mem_append.1 hb).elim (h.2 b) (k.2 b)⟩
theorem eK.refl (bs:List Nat) (w:World):eK bs w w:=fun _ _=>rfl
theorem eK.trans {bs:List Nat} {a b c:World} (h:eK bs a b) (k:eK bs b c):eK bs a c:=fun x hx=>(k x hx).trans (h x hx)
theorem eK.set {bs:List Nat} {w w':World} (h:eK bs w w') {a:Addr} (ha:∀ b∈bs,b≠a.block) (u:Value):eK bs w (w'.setCell a u):=fun x hx=>by rw[Below.heap_setCell _ _ _ _ (ha x hx)];exact h x hx
theorem eK.only {bs cs:List Nat} {w w' w'':World} (h:eK bs w w') (hb:kD bs w') (hd:∀ x∈bs,x ∉ cs) (l:Only cs w' w''):eK bs w w'':=fun x hx=>(l.block x (hb x hx) (hd x hx)).trans (h x hx)
theorem kD.append {bs cs:List Nat} {w:World} (h:kD bs w) (k:kD cs w):kD (bs++cs) w:=fun b hb=>(List.mem_append.1 hb).elim (h b) (k b)
theorem nN (w:World) (b o:Nat) (v:Value) (cur:Array Value) (e:TypeId) (fr:Nat×Nat) (h:w.heap[b]?=some (.cells cur e fr)):(w.setCell ⟨b,o,none⟩ v).heap[b]?=some (.cells (cur.setIfInBounds o v) e fr):=by
  simp [World.setCell,Array.getElem?_modify,h]
def gM (w:World) (b:Nat) (arr:Array Value) (T:TypeId):Prop:=w.heap[b]?=some (.cells arr T (0,0))
theorem gM.cell {w:World} {b:Nat} {arr:Array Value} {T:TypeId} (h:gM w b arr T) (j:Nat):w.cell? ⟨b,j,none⟩=arr[j]?:=by unfold gM at h;simp [World.cell?,h]
theorem gM.frozen {w:World} {b:Nat} {arr:Array Value} {T:TypeId} (h:gM w b arr T) (j:Nat):w.frozen? ⟨b,j,none⟩=false:=by unfold gM at h;simp [World.frozen?,h]
theorem gM.lt {w:World} {b:Nat} {arr:Array Value} {T:TypeId} (h:gM w b arr T):b<w.heap.size:=iS h
theorem gM.new {w:World} {b:Nat} {arr:Array Value} {T:TypeId} (h:b=w.heap.size):gM (w.alloc (.cells arr T)) b arr T:=by subst h;exact heap_alloc_new w _
theorem gM.only {w w':World} {b:Nat} {bs:List Nat} {arr:Array Value} {T:TypeId} (h:gM w b arr T) (l:Only bs w w') (hb:b ∉ bs):gM w' b arr T:=(l.block b h.lt hb).trans h
theorem gM.set_at {w:World} {b j:Nat} {arr arr':Array Value} {T:TypeId} {u:Value} (h:gM w b arr T) (e:arr.setIfInBounds j u=arr'):gM (w.setCell ⟨b,j,none⟩ u) b arr' T:=by subst e;exact nN w b j u arr T (0,0) h
abbrev ER (α:Type):=World→(Nat→Option Value)→α→List Nat→Prop
def Fr {α:Type} (sz:Nat) (R:ER α):Prop:=∀ w w' f g x bs,R w f x bs→eK bs w w'→(∀ j,j<sz→g j=f j)→R w' g x bs
def Els {α:Type} (sz:Nat) (R:ER α) (w:World) (b o:Nat) (l:List α) (bss:List (List Nat)):Prop:=
  bss.length=l.length∧∀ i x bi,l[i]?=some x→bss[i]?=some bi→R w (fun j=>w.cell? ⟨b,o+i*sz+j,none⟩) x bi
def Sl {α:Type} (sz:Nat) (R:ER α) (w:World) (v:Value) (l:List α) (bs:List Nat):Prop:=
  ∃ a c,v= .slice a l.length c∧l.length≤c∧c≤maxLen∧(a=none→c=0) ∧
    ((l=[]∧bs=[])∨∃ b o bss,a=some ⟨b,o,none⟩∧bs=b::bss.flatten∧Els sz R w b o l bss)
theorem iM {w w':World} {b:Nat} (h:w'.heap[b]?=w.heap[b]?) (o:Nat):w'.cell? ⟨b,o,none⟩=w.cell? ⟨b,o,none⟩:=World.cell?_of_block (w:=w) (a:=⟨b,o,none⟩) h
theorem Els.same {α:Type} {sz:Nat} {R:ER α} (hR:Fr sz R) {w w':World} {b o:Nat} {l:List α} {bss:List (List Nat)} (h:Els sz R w b o l bss) (hb:w'.heap[b]?=w.heap[b]?) (hs:eK bss.flatten w w'):Els sz R w' b o l bss:=
  ⟨h.1,fun i x bi hx hi=>hR w w' _ _ x bi (h.2 i x bi hx hi) (fun c hc=>hs c (List.mem_flatten.2 ⟨bi,List.mem_of_getElem? hi,hc⟩)) (fun _ _=>iM hb _)⟩
theorem Sl.same {α:Type} {sz:Nat} {R:ER α} (hR:Fr sz R) {w w':World} {v:Value} {l:List α} {bs:List Nat} (h:Sl sz R w v l bs) (hs:eK bs w w'):Sl sz R w' v l bs:=by
  obtain⟨a,c,rfl,h1,h2,h3,h4⟩:=h;refine⟨a,c,rfl,h1,h2,h3,?_⟩
  rcases h4 with h4 | ⟨b,o,bss,rfl,rfl,he⟩
  · exact .inl h4
  · exact .inr ⟨b,o,bss,rfl,rfl,he.same hR (hs b (by simp)) (fun c hc=>hs c (by simp [hc]))⟩
theorem Sl.open {α:Type} {sz:Nat} {R:ER α} {w:World} {v:Value} {l:List α} {bs:List Nat} (h:Sl sz R w v l bs) :
    ∃ a c,v= .slice a l.length c∧l.length≤c∧c≤9223372036854775807∧(a=none→c=0) ∧
      ∀ k,(hk:k<l.length)→∃ b o bss bi,a=some ⟨b,o,none⟩∧bs=b::bss.flatten∧Els sz R w b o l bss∧bss[k]?=some bi∧(∀ c∈bi,c∈bs)∧R w (fun j=>w.cell? ⟨b,o+k*sz+j,none⟩) l[k] bi:=by
  obtain⟨a,c,rfl,h1,h2,h3,h4⟩:=h;refine⟨a,c,rfl,h1,by unfold maxLen at h2;omega,h3,fun k hk=>?_⟩
  rcases h4 with ⟨rfl,rfl⟩ | ⟨b,o,bss,rfl,rfl,he⟩
  · simp at hk
  · have hl:k<bss.length:=by rw[he.1];exact hk
    exact⟨b,o,bss,bss[k],rfl,rfl,he,List.getElem?_eq_getElem hl,fun c hc=>List.mem_cons_of_mem _ (List.mem_flatten.2 ⟨_,List.getElem_mem hl,hc⟩),he.2 k _ _ (List.getElem?_eq_getElem hk) (List.getElem?_eq_getElem hl)⟩
def xM:ER Int:=fun _ f x bs=>f 0=some (.int .i64 x)∧xS x∧bs=[]
theorem xM.fr:Fr 1 xM:=fun _ _ _ _ _ _ h _ hg=>⟨(hg 0 (by omega)).trans h.1,h.2⟩
def vS {α:Type} (sz:Nat) (R:ER α):ER (List α):=fun w f l bs=>∃ v,f 0=some v∧Sl sz R w v l bs
theorem vS.fr {α:Type} {sz:Nat} {R:ER α} (hR:Fr sz R):Fr 1 (vS sz R):=fun _ _ _ _ _ _ ⟨v,h0,h⟩ hs hg=>⟨v,(hg 0 (by omega)).trans h0,h.same hR hs⟩
abbrev eG:=vS 1 xM
theorem eG.fr:Fr 1 eG:=vS.fr xM.fr
def aY {α:Type} (sz:Nat) (R:ER α) (w:World) (v:Value) (x:α) (bs:List Nat):Prop:=∃ cs:List Value,cs.length=sz∧v= .agg cs.toArray∧R w (fun j=>cs[j]?) x bs
theorem aY.same {α:Type} {sz:Nat} {R:ER α} (hR:Fr sz R) {w w':World} {v:Value} {x:α} {bs:List Nat} (h:aY sz R w v x bs) (hs:eK bs w w'):aY sz R w' v x bs:=
  let ⟨cs,hl,hv,hr⟩:=h;⟨cs,hl,hv,hR _ _ _ _ _ _ hr hs (fun _ _=>rfl)⟩
theorem aY.of_cells {α:Type} {sz:Nat} {R:ER α} (hR:Fr sz R) {w:World} {f:Nat→Option Value} {x:α} {bs:List Nat} (h:R w f x bs) (cs:List Value) (hl:cs.length=sz) (hc:∀ j,j<sz→cs[j]?=f j):aY sz R w (.agg cs.toArray) x bs:=
  ⟨cs,hl,rfl,hR _ _ _ _ _ _ h (fun _ _=>rfl) hc⟩
theorem Sl.val {α:Type} {sz:Nat} {R:ER α} {w:World} {v:Value} {l:List α} {bs:List Nat} (h:Sl sz R w v l bs):∃ a c,v= .slice a l.length c:=let ⟨a,c,hv,_⟩:=h;⟨a,c,hv⟩
theorem Own.cell0 {w:World} {b:Nat} {cur:Array Value} {e:TypeId} (h:w.heap[b]?=some (.cells cur e (0,0))) (o:Nat):w.cell? ⟨b,o,none⟩=cur[o]?∧w.frozen? ⟨b,o,none⟩=false:=by
  simp [World.cell?,World.frozen?,h]
theorem rQ (b:Nat) (e:TypeId) (fr:Nat×Nat):∀ (vs:List Value) (o:Nat) (w:World) (cur:Array Value),w.heap[b]?=some (.cells cur e fr)→o+vs.length≤cur.size →
    ∃ cur':Array Value,(w.setCells b o vs).heap[b]?=some (.cells cur' e fr)∧cur'.size=cur.size∧(∀ j,j<vs.length→cur'[o+j]?=vs[j]?)∧∀ m,(m<o∨o+vs.length≤m)→cur'[m]?=cur[m]?
  | [],o,w,cur,h,_=>⟨cur,h,rfl,fun j hj=>by simp at hj,fun _ _=>rfl⟩
  | v::r,o,w,cur,h,hl=>by
    obtain⟨cur',h1,h2,h3,h4⟩:=rQ b e fr r (o+1) (w.setCell ⟨b,o,none⟩ v) (cur.setIfInBounds o v) (nN w b o v cur e fr h) (by rw[Array.size_setIfInBounds];simp only[List.length_cons] at hl;omega);refine⟨cur',h1,by simpa using h2,fun j hj=>?_,fun m hm=>?_⟩
    · cases j with
      | zero=>rw[Nat.add_zero,h4 o (Or.inl (by omega)),Array.getElem?_setIfInBounds,if_pos rfl,if_pos (by simp only[List.length_cons] at hl;omega)];rfl
      | succ j=>have:=h3 j (by simpa using hj);rw[show o+(j+1)=o+1+j by omega];simpa using this
    · rw[h4 m (by simp at hm;omega),Array.getElem?_setIfInBounds];simp at hm;rw[if_neg (by omega)]
theorem nY (b:Nat):∀ (vs:List Value) (o:Nat) (w:World) (k:Nat),k≠b→(w.setCells b o vs).heap[k]?=w.heap[k]?
  | [],_,_,_,_=>rfl
  | v::r,o,w,k,h=>by rw[World.setCells,nY b r _ _ k h,Below.heap_setCell _ _ _ _ (by exact h)]
theorem wI (b:Nat):∀ (vs:List Value) (o:Nat) (w:World),(w.setCells b o vs).heap.size=w.heap.size
  | [],_,_=>rfl
  | v::r,o,w=>by rw[World.setCells,wI b r];simp
theorem xFi (b o:Nat) (vs:List Value) (w:World):Only [b] w (w.setCells b o vs):=by
  refine⟨?_,?_,?_,by rw[wI];omega,fun k _ hn=>nY b vs o w k (by simpa using hn)⟩
  all_goals (induction vs generalizing o w with
    | nil=>rfl
    | cons v r ih=>rw[World.setCells,ih];rfl)
theorem xVa {P:Program} {t e:TypeId} {z:Value} {size bytes:Nat} (ht:P.underlying t=some (.slice e)) (hinfo:(P.info? e).map (fun i=>(i.zero,i.size,i.bytes))=some (some z,size,bytes))
    (n:Nat) (hbytes:bytes*n≤281474976710656) (h63:n≤9223372036854775807) (w:World) :
    (Instr.makeSlice t (.int .i64 (n:Int)) (.int .i64 (n:Int))).run P w= .ok (.slice (some ⟨w.heap.size,0,none⟩) n n) (w.alloc (.cells (madeCells z.cells (n*size)) e)):=by
  obtain⟨i,hi,hzz⟩:=Option.map_eq_some_iff.1 hinfo;simp only[Prod.mk.injEq] at hzz;obtain⟨hz,hs,hb⟩:=hzz
  have hb':(i.bytes:Int)*(n:Int)≤281474976710656:=by
    have h:((i.bytes*n:Nat):Int)≤281474976710656:=by rw[hb];omega
    rwa [Int.natCast_mul] at h
  have hr:=run_make (P:=P) w t e i z ht hi hz .i64 .i64 n n (by omega) (Int.le_refl _) hb' (by omega);simp only[Int.toNat_natCast,hs] at hr;exact hr
section
variable {α:Type} {c:α→Nat} {m:α→Int→α}
theorem xSm {l:List α} {k:Nat} {x:α} (h:l[k]?=some x):l.drop k=x::l.drop (k+1):=by
  obtain⟨hk,rfl⟩:=List.getElem?_eq_some_iff.1 h;exact List.drop_eq_getElem_cons hk
end
structure Upd (b lo hi:Nat) (bi:List Nat) (w w':World):Prop where
  only:Only (b::bi) w w'
  row:∃ cur e,w'.heap[b]?=some (.cells cur e (0,0))
  out:∀ m,(m<lo∨hi≤m)→w'.cell? ⟨b,m,none⟩=w.cell? ⟨b,m,none⟩
theorem Upd.refl {b lo hi:Nat} {bi:List Nat} {w:World} (h:∃ cur e,w.heap[b]?=some (.cells cur e (0,0))):Upd b lo hi bi w w:=⟨Only.refl _ _,h,fun _ _=>rfl⟩
theorem Upd.set {b lo hi:Nat} {bi:List Nat} {w w':World} (h:Upd b lo hi bi w w') {o:Nat} (ho:lo≤o∧o<hi) (u:Value):Upd b lo hi bi w (w'.setCell ⟨b,o,none⟩ u):=by
  obtain⟨cur,e,hc⟩:=h.row;refine⟨h.only.trans ⟨rfl,rfl,rfl,by simp,fun k _ hn=>Below.heap_setCell _ _ _ _ (fun hk=>hn (by simp [hk]))⟩,⟨_,_,nN _ _ _ _ _ _ _ hc⟩,fun m hm=>?_⟩;rw[World.cell?_setCell_other _ _ _ _ (by intro h;injection h;omega)];exact h.out m hm
theorem Own.left {B:Nat} {x y:List Nat} {w:World} (h:Own B (x++y) w):Own B x w:=⟨(List.nodup_append.1 h.1).1,fun b hb=>h.2 b (List.mem_append_left _ hb)⟩
theorem Own.right {B:Nat} {x y:List Nat} {w:World} (h:Own B (x++y) w):Own B y w:=⟨(List.nodup_append.1 h.1).2.1,fun b hb=>h.2 b (List.mem_append_right _ hb)⟩
theorem Only.cell {bs:List Nat} {w w':World} (l:Only bs w w') {b:Nat} (hb:b ∉ bs) (hw:b<w.heap.size):∀ m,w'.cell? ⟨b,m,none⟩=w.cell? ⟨b,m,none⟩:=fun m=>iM (l.block b hw hb) m
def bK (x:Value) (w:World) (e:Ending) (w':World):Prop:=e= .returned x∧Below w.heap.size w w'
theorem oj {α:Type u} {a b:α} (h:some a=some b):a=b:=Option.some.inj h
theorem kQ {α:Type u} {a b:α} (h:some a=some b):b=a:=(Option.some.inj h).symm
abbrev xF (x:Int):Value:=.int .i64 x
abbrev vA (b:Nat):Value:=.pointer (some ⟨b,0,none⟩)
abbrev vH:Value:=.slice none 0 0
end Go.Proofs.YtfmnjkpddljdcaaGreatDoor
