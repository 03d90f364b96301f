import Derived.WalkKit
import Derived.WalkSpells
import Derived.WalkLawsBesides
namespace Go.Proofs.YticojbhjloeckaaGreat
set_option linter.unusedVariables false
set_option linter.unusedSimpArgs false
open Go.RowKit
structure Hd (p:Prop):Prop where
  out:p
theorem hd {p:Prop} (h:p):Hd p:=⟨h⟩
theorem ret64 {a b:Int} (h:a=b):Ending.returned (.int .i64 a)= .returned (.int .i64 b):=by rw[h]
def xY (n:Int):Prop:=-9223372036854775808≤n∧n≤9223372036854775807
theorem xY.of {n:Int} (h: -9223372036854775808≤n∧n≤9223372036854775807):xY n:=h
theorem bcell {W w1:World} (hb:Below W.heap.size W w1):(∀ b o,b<W.heap.size→w1.cell? ⟨b,o,none⟩=W.cell? ⟨b,o,none⟩)∧(∀ b o,b<W.heap.size→w1.frozen? ⟨b,o,none⟩=W.frozen? ⟨b,o,none⟩):=
  ⟨fun b o h=>hb.cell (p:=⟨b,o,none⟩) h,fun b o h=>hb.frozen (p:=⟨b,o,none⟩) h⟩
theorem _root_.Go.RowKit.Below.through {w p q:World} (l:Below p.heap.size p q) (h:Below w.heap.size w p):Below w.heap.size w q:=h.trans (l.mono h.size)
structure Only (bs:List Nat) (w w':World):Prop where
  os:w'.os=w.os
  tape:w'.tape=w.tape
  output:w'.output=w.output
  size:w.heap.size≤w'.heap.size
  block:∀ k,k<w.heap.size→k ∉ bs→w'.heap[k]?=w.heap[k]?
theorem Only.of_below {bs:List Nat} {w w':World} (h:Below w.heap.size w w'):Only bs w w':=⟨h.os,h.tape,h.output,h.size,fun k hk _=>h.block k hk⟩
theorem Only.refl (bs:List Nat) (w:World):Only bs w w:=⟨rfl,rfl,rfl,Nat.le_refl _,fun _ _ _=>rfl⟩
theorem Only.below {B:Nat} {bs:List Nat} {w w':World} (h:Only bs w w') (hB:B≤w.heap.size) (hbs:∀ b∈bs,B≤b):Below B w w':=
  ⟨h.os,h.tape,h.output,h.size,fun k hk=>h.block k (by omega) (fun hm=>by have:=hbs k hm;omega)⟩
theorem Only.trans {bs:List Nat} {a b c:World} (h:Only bs a b) (k:Only bs b c):Only bs a c:=
  ⟨k.os.trans h.os,k.tape.trans h.tape,k.output.trans h.output,Nat.le_trans h.size k.size,fun i hi hn=>(k.block i (by have:=h.size;omega) hn).trans (h.block i hi hn)⟩
theorem Only.mono {bs cs:List Nat} {w w':World} (h:Only bs w w') (hs:∀ b∈bs,b∈cs):Only cs w w':=
  ⟨h.os,h.tape,h.output,h.size,fun k hk hn=>h.block k hk (fun hm=>hn (hs k hm))⟩
def qJ (bs:List Nat) (w w':World):Prop:=∀ b∈bs,w'.heap[b]?=w.heap[b]?
def oZ (bs:List Nat) (w:World):Prop:=∀ b∈bs,b<w.heap.size
def Own (B:Nat) (bs:List Nat) (w:World):Prop:=bs.Nodup∧∀ b∈bs,B≤b∧∃ cur e,w.heap[b]?=some (.cells cur e (0,0))
theorem lt_of_some {w:World} {b:Nat} {o:Obj} (h:w.heap[b]?=some o):b<w.heap.size:=(Array.getElem?_eq_some_iff.1 h).1
theorem Own.inMem {B:Nat} {bs:List Nat} {w:World} (h:Own B bs w):oZ bs w:=fun b hb=>let ⟨_,_,_,he⟩:=h.2 b hb;lt_of_some he
theorem oZ.nil (w:World):oZ [] w:=fun _ h=>by cases h
theorem Own.nil (B:Nat) (w:World):Own B [] w:=⟨List.nodup_nil,fun _ h=>by cases h⟩
theorem Own.mono {B C:Nat} {bs:List Nat} {w:World} (h:Own B bs w) (hC:C≤B):Own C bs w:=⟨h.1,fun b hb=>⟨Nat.le_trans hC (h.2 b hb).1,(h.2 b hb).2⟩⟩
theorem Own.same {B:Nat} {bs:List Nat} {w w':World} (h:Own B bs w) (hs:qJ bs w w'):Own B bs w':=⟨h.1,fun b hb=>⟨(h.2 b hb).1,by rw[hs b hb];exact(h.2 b hb).2⟩⟩
theorem Own.sameBelow {B:Nat} {bs:List Nat} {w w':World} (h:Own B bs w) (hs:Below w.heap.size w w'):Own B bs w':=h.same fun b hb=>hs.block b (h.inMem b hb)
theorem oZ.same {bs:List Nat} {w w':World} (h:oZ bs w) (hs:Below w.heap.size w w'):qJ bs w w':=fun b hb=>hs.block b (h b hb)
theorem oZ.le {bs:List Nat} {w w':World} (h:oZ bs w) (hs:w.heap.size≤w'.heap.size):oZ bs w':=fun b hb=>Nat.lt_of_lt_of_le (h b hb) hs
theorem Own.append {B:Nat} {bs cs:List Nat} {w:World} (h:Own B bs w) (k:Own B cs w) (hd:∀ b∈bs,b ∉ cs):Own B (bs++cs) w:=
  ⟨List.nodup_append.2 ⟨h.1,k.1,fun a ha b hb e=>hd a ha (e ▸ hb)⟩,fun b hb=>(List.mem_append.1 hb).elim (h.2 b) (k.2 b)⟩
theorem qJ.refl (bs:List Nat) (w:World):qJ bs w w:=fun _ _=>rfl
theorem qJ.trans {bs:List Nat} {a b c:World} (h:qJ bs a b) (k:qJ bs b c):qJ bs a c:=fun x hx=>(k x hx).trans (h x hx)
theorem qJ.set {bs:List Nat} {w w':World} (h:qJ bs w w') {a:Addr} (ha:∀ b∈bs,b≠a.block) (u:Value):qJ bs w (w'.setCell a u):=fun x hx=>by rw[Below.heap_setCell _ _ _ _ (ha x hx)];exact h x hx
theorem qJ.alloc {bs:List Nat} {w w':World} (h:qJ bs w w') (hb:oZ bs w') (o:Obj):qJ bs w (w'.alloc o):=fun x hx=>by rw[Below.heap_alloc _ _ _ (hb x hx)];exact h x hx
theorem qJ.drew {bs:List Nat} {w w':World} (h:qJ bs w w'):qJ bs w w'.drew:=h
theorem qJ.thru {bs:List Nat} {w w' w'':World} (h:qJ bs w w') (hb:oZ bs w') (l:Below w'.heap.size w' w''):qJ bs w w'':=fun x hx=>(l.block x (hb x hx)).trans (h x hx)
theorem oZ.append {bs cs:List Nat} {w:World} (h:oZ bs w) (k:oZ cs w):oZ (bs++cs) w:=fun b hb=>(List.mem_append.1 hb).elim (h b) (k b)
theorem heap_setCell_at (w:World) (b o:Nat) (v:Value) (cur:Array Value) (e:TypeId) (fr:Nat×Nat) (h:w.heap[b]?=some (.cells cur e fr)):(w.setCell ⟨b,o,none⟩ v).heap[b]?=some (.cells (cur.setIfInBounds o v) e fr):=by
  simp [World.setCell,Array.getElem?_modify,h]
def kI (w:World) (b:Nat) (arr:Array Value) (T:TypeId):Prop:=w.heap[b]?=some (.cells arr T (0,0))
theorem kI.cell {w:World} {b:Nat} {arr:Array Value} {T:TypeId} (h:kI w b arr T) (j:Nat):w.cell? ⟨b,j,none⟩=arr[j]?:=by unfold kI at h;simp [World.cell?,h]
theorem kI.frozen {w:World} {b:Nat} {arr:Array Value} {T:TypeId} (h:kI w b arr T) (j:Nat):w.frozen? ⟨b,j,none⟩=false:=by unfold kI at h;simp [World.frozen?,h]
theorem kI.lt {w:World} {b:Nat} {arr:Array Value} {T:TypeId} (h:kI w b arr T):b<w.heap.size:=lt_of_some h
theorem kI.new {w:World} {b:Nat} {arr:Array Value} {T:TypeId} (h:b=w.heap.size):kI (w.alloc (.cells arr T)) b arr T:=by subst h;exact heap_alloc_new w _
theorem kI.old {w:World} {b:Nat} {arr:Array Value} {T:TypeId} (h:kI w b arr T) (o:Obj):kI (w.alloc o) b arr T:=(Below.heap_alloc _ _ _ h.lt).trans h
theorem kI.thru {w w':World} {b:Nat} {arr:Array Value} {T:TypeId} (h:kI w b arr T) (l:Below w.heap.size w w'):kI w' b arr T:=(l.block b h.lt).trans h
theorem kI.only {w w':World} {b:Nat} {bs:List Nat} {arr:Array Value} {T:TypeId} (h:kI w b arr T) (l:Only bs w w') (hb:b ∉ bs):kI w' b arr T:=(l.block b h.lt hb).trans h
theorem kI.set_at {w:World} {b j:Nat} {arr arr':Array Value} {T:TypeId} {u:Value} (h:kI w b arr T) (e:arr.setIfInBounds j u=arr'):kI (w.setCell ⟨b,j,none⟩ u) b arr' T:=by subst e;exact heap_setCell_at w b j u arr T (0,0) h
theorem kI.set_far {w:World} {b:Nat} {a:Addr} {arr:Array Value} {T:TypeId} {u:Value} (h:kI w b arr T) (e:b≠a.block):kI (w.setCell a u) b arr T:=(Below.heap_setCell _ _ _ _ e).trans h
theorem kI.drew {w:World} {b:Nat} {arr:Array Value} {T:TypeId} (h:kI w b arr T):kI w.drew b arr T:=h
abbrev ER (α:Type):=World→(Nat→Option Value)→α→List Nat→Prop
def Fr {α:Type} (sz:Nat) (R:ER α):Prop:=∀ w w' f g x bs,R w f x bs→qJ bs w w'→(∀ j,j<sz→g j=f j)→R w' g x bs
def Els {α:Type} (sz:Nat) (R:ER α) (w:World) (b o:Nat) (l:List α) (bss:List (List Nat)):Prop:=
  bss.length=l.length∧∀ i x bi,l[i]?=some x→bss[i]?=some bi→R w (fun j=>w.cell? ⟨b,o+i*sz+j,none⟩) x bi
def Sl {α:Type} (sz:Nat) (R:ER α) (w:World) (v:Value) (l:List α) (bs:List Nat):Prop:=
  ∃ a c,v= .slice a l.length c∧l.length≤c∧c≤maxLen∧(a=none→c=0) ∧
    ((l=[]∧bs=[])∨∃ b o bss,a=some ⟨b,o,none⟩∧bs=b::bss.flatten∧Els sz R w b o l bss)
theorem cell_same {w w':World} {b:Nat} (h:w'.heap[b]?=w.heap[b]?) (o:Nat):w'.cell? ⟨b,o,none⟩=w.cell? ⟨b,o,none⟩:=World.cell?_of_block (w:=w) (a:=⟨b,o,none⟩) h
theorem Els.same {α:Type} {sz:Nat} {R:ER α} (hR:Fr sz R) {w w':World} {b o:Nat} {l:List α} {bss:List (List Nat)} (h:Els sz R w b o l bss) (hb:w'.heap[b]?=w.heap[b]?) (hs:qJ bss.flatten w w'):Els sz R w' b o l bss:=
  ⟨h.1,fun i x bi hx hi=>hR w w' _ _ x bi (h.2 i x bi hx hi) (fun c hc=>hs c (List.mem_flatten.2 ⟨bi,List.mem_of_getElem? hi,hc⟩)) (fun _ _=>cell_same hb _)⟩
theorem Sl.same {α:Type} {sz:Nat} {R:ER α} (hR:Fr sz R) {w w':World} {v:Value} {l:List α} {bs:List Nat} (h:Sl sz R w v l bs) (hs:qJ bs w w'):Sl sz R w' v l bs:=by
  obtain⟨a,c,rfl,h1,h2,h3,h4⟩:=h;refine⟨a,c,rfl,h1,h2,h3,?_⟩
  rcases h4 with h4 | ⟨b,o,bss,rfl,rfl,he⟩
  · exact .inl h4
  · exact .inr ⟨b,o,bss,rfl,rfl,he.same hR (hs b (by simp)) (fun c hc=>hs c (by simp [hc]))⟩
theorem Sl.open {α:Type} {sz:Nat} {R:ER α} {w:World} {v:Value} {l:List α} {bs:List Nat} (h:Sl sz R w v l bs) :
    ∃ a c,v= .slice a l.length c∧l.length≤c∧c≤9223372036854775807∧(a=none→c=0) ∧
      ∀ k,(hk:k<l.length)→∃ b o bss bi,a=some ⟨b,o,none⟩∧bs=b::bss.flatten∧Els sz R w b o l bss∧bss[k]?=some bi∧(∀ c∈bi,c∈bs)∧R w (fun j=>w.cell? ⟨b,o+k*sz+j,none⟩) l[k] bi:=by
  obtain⟨a,c,rfl,h1,h2,h3,h4⟩:=h;refine⟨a,c,rfl,h1,by unfold maxLen at h2;omega,h3,fun k hk=>?_⟩
  rcases h4 with ⟨rfl,rfl⟩ | ⟨b,o,bss,rfl,rfl,he⟩
  · simp at hk
  · have hl:k<bss.length:=by rw[he.1];exact hk
    exact⟨b,o,bss,bss[k],rfl,rfl,he,List.getElem?_eq_getElem hl,fun c hc=>List.mem_cons_of_mem _ (List.mem_flatten.2 ⟨_,List.getElem_mem hl,hc⟩),he.2 k _ _ (List.getElem?_eq_getElem hk) (List.getElem?_eq_getElem hl)⟩
def xH:ER Int:=fun _ f x bs=>f 0=some (.int .i64 x)∧xY x∧bs=[]
theorem xH.fr:Fr 1 xH:=fun _ _ _ _ _ _ h _ hg=>⟨(hg 0 (by omega)).trans h.1,h.2⟩
abbrev Ints:=Sl 1 xH
def vY {α:Type} (sz:Nat) (R:ER α):ER (List α):=fun w f l bs=>∃ v,f 0=some v∧Sl sz R w v l bs
theorem vY.fr {α:Type} {sz:Nat} {R:ER α} (hR:Fr sz R):Fr 1 (vY sz R):=fun _ _ _ _ _ _ ⟨v,h0,h⟩ hs hg=>⟨v,(hg 0 (by omega)).trans h0,h.same hR hs⟩
abbrev zT:=vY 1 xH
theorem zT.fr:Fr 1 zT:=vY.fr xH.fr
def zC {α:Type} (sz:Nat) (R:ER α) (w:World) (v:Value) (x:α) (bs:List Nat):Prop:=∃ cs:List Value,cs.length=sz∧v= .agg cs.toArray∧R w (fun j=>cs[j]?) x bs
theorem zC.same {α:Type} {sz:Nat} {R:ER α} (hR:Fr sz R) {w w':World} {v:Value} {x:α} {bs:List Nat} (h:zC sz R w v x bs) (hs:qJ bs w w'):zC sz R w' v x bs:=
  let ⟨cs,hl,hv,hr⟩:=h;⟨cs,hl,hv,hR _ _ _ _ _ _ hr hs (fun _ _=>rfl)⟩
theorem zC.of_cells {α:Type} {sz:Nat} {R:ER α} (hR:Fr sz R) {w:World} {f:Nat→Option Value} {x:α} {bs:List Nat} (h:R w f x bs) (cs:List Value) (hl:cs.length=sz) (hc:∀ j,j<sz→cs[j]?=f j):zC sz R w (.agg cs.toArray) x bs:=
  ⟨cs,hl,rfl,hR _ _ _ _ _ _ h (fun _ _=>rfl) hc⟩
def RetAgg {α:Type} (sz:Nat) (R:ER α) (x:α) (w:World) (e:Ending) (w':World):Prop:=
  ∃ v bs,e= .returned v∧zC sz R w' v x bs∧Own w.heap.size bs w'∧Below w.heap.size w w'
theorem Sl.val {α:Type} {sz:Nat} {R:ER α} {w:World} {v:Value} {l:List α} {bs:List Nat} (h:Sl sz R w v l bs):∃ a c,v= .slice a l.length c:=let ⟨a,c,hv,_⟩:=h;⟨a,c,hv⟩
theorem Own.cell0 {w:World} {b:Nat} {cur:Array Value} {e:TypeId} (h:w.heap[b]?=some (.cells cur e (0,0))) (o:Nat):w.cell? ⟨b,o,none⟩=cur[o]?∧w.frozen? ⟨b,o,none⟩=false:=by
  simp [World.cell?,World.frozen?,h]
theorem Ints.of_cells {w:World} {b o n c:Nat} {l:List Int} (hn:l.length=n) (hc1:n≤c) (hc2:c≤maxLen) (h:∀ i x,l[i]?=some x→w.cell? ⟨b,o+i,none⟩=some (.int .i64 x)∧xY x) :
    Ints w (.slice (some ⟨b,o,none⟩) n c) l [b]:=by
  subst hn;refine⟨_,_,rfl,hc1,hc2,(fun h=>nomatch h),.inr ⟨b,o,List.replicate l.length [],rfl,?_,by simp,fun i x bi hx hbi=>?_⟩⟩
  · rw[List.flatten_replicate_nil]
  · obtain⟨h1,h2⟩:=h i x hx
    have hbi':=List.eq_of_mem_replicate (List.mem_of_getElem? hbi);exact⟨by simpa using h1,h2,hbi'⟩
structure Made {α:Type} (sz:Nat) (R:ER α) (E:TypeId) (w0:World) (l:List α) (B n:Nat) (k:Nat) (wr:World) (cur:Array Value) (bss:List (List Nat)):Prop where
  heap:wr.heap[B]?=some (.cells cur E (0,0))
  base:w0.heap.size≤B
  size:cur.size=n*sz
  len:bss.length=k
  below:Below w0.heap.size w0 wr
  own:Own (B+1) bss.flatten wr
  els:∀ i x bi,i<k→l[i]?=some x→bss[i]?=some bi→R wr (fun j=>cur[i*sz+j]?) x bi
theorem heap_setCells_at (b:Nat) (e:TypeId) (fr:Nat×Nat):∀ (vs:List Value) (o:Nat) (w:World) (cur:Array Value),w.heap[b]?=some (.cells cur e fr)→o+vs.length≤cur.size →
    ∃ cur':Array Value,(w.setCells b o vs).heap[b]?=some (.cells cur' e fr)∧cur'.size=cur.size∧(∀ j,j<vs.length→cur'[o+j]?=vs[j]?)∧∀ m,(m<o∨o+vs.length≤m)→cur'[m]?=cur[m]?
  | [],o,w,cur,h,_=>⟨cur,h,rfl,fun j hj=>by simp at hj,fun _ _=>rfl⟩
  | v::r,o,w,cur,h,hl=>by
    obtain⟨cur',h1,h2,h3,h4⟩:=heap_setCells_at b e fr r (o+1) (w.setCell ⟨b,o,none⟩ v) (cur.setIfInBounds o v) (heap_setCell_at w b o v cur e fr h) (by rw[Array.size_setIfInBounds];simp only[List.length_cons] at hl;omega);refine⟨cur',h1,by simpa using h2,fun j hj=>?_,fun m hm=>?_⟩
    · cases j with
      | zero=>rw[Nat.add_zero,h4 o (Or.inl (by omega)),Array.getElem?_setIfInBounds,if_pos rfl,if_pos (by simp only[List.length_cons] at hl;omega)];rfl
      | succ j=>have:=h3 j (by simpa using hj);rw[show o+(j+1)=o+1+j by omega];simpa using this
    · rw[h4 m (by simp at hm;omega),Array.getElem?_setIfInBounds];simp at hm;rw[if_neg (by omega)]
theorem heap_setCells_other (b:Nat):∀ (vs:List Value) (o:Nat) (w:World) (k:Nat),k≠b→(w.setCells b o vs).heap[k]?=w.heap[k]?
  | [],_,_,_,_=>rfl
  | v::r,o,w,k,h=>by rw[World.setCells,heap_setCells_other b r _ _ k h,Below.heap_setCell _ _ _ _ (by exact h)]
theorem size_setCells (b:Nat):∀ (vs:List Value) (o:Nat) (w:World),(w.setCells b o vs).heap.size=w.heap.size
  | [],_,_=>rfl
  | v::r,o,w=>by rw[World.setCells,size_setCells b r];simp
theorem only_setCells (b o:Nat) (vs:List Value) (w:World):Only [b] w (w.setCells b o vs):=by
  refine⟨?_,?_,?_,by rw[size_setCells];omega,fun k _ hn=>heap_setCells_other b vs o w k (by simpa using hn)⟩
  all_goals (induction vs generalizing o w with
    | nil=>rfl
    | cons v r ih=>rw[World.setCells,ih];rfl)
theorem Made.step {α:Type} {sz:Nat} {R:ER α} (hR:Fr sz R) {E:TypeId} {w0:World} {l:List α} {B n k:Nat} {wr:World} {cur:Array Value} {bss:List (List Nat)} (h:Made sz R E w0 l B n k wr cur bss) (hk:k<n)
    {w1:World} (hw:Below wr.heap.size wr w1) {vs:List Value} (hv:vs.length=sz) {x:α} (hx:l[k]?=some x) {bi:List Nat} (hr:R w1 (fun j=>vs[j]?) x bi) (ho:Own wr.heap.size bi w1) :
    ∃ cur',Made sz R E w0 l B n (k+1) (w1.setCells B (k*sz) vs) cur' (bss++[bi]):=by
  have hB:B<wr.heap.size:=lt_of_some h.heap
  have h1:w1.heap[B]?=some (.cells cur E (0,0)):=by rw[hw.block B hB];exact h.heap
  have hmul:(k+1)*sz≤n*sz:=Nat.mul_le_mul_right _ hk
  have hsz:k*sz+vs.length≤cur.size:=by rw[h.size,hv];rw[Nat.add_mul] at hmul;omega
  obtain⟨cur',g1,g2,g3,g4⟩:=heap_setCells_at B E (0,0) vs (k*sz) w1 cur h1 hsz;have hother:∀ c,c≠B→(w1.setCells B (k*sz) vs).heap[c]?=w1.heap[c]?:=fun c hc=>heap_setCells_other B vs _ w1 c hc
  have hold:qJ bss.flatten wr (w1.setCells B (k*sz) vs):=fun c hc=>by
    have:=(h.own.2 c hc).1;rw[hother c (by omega),hw.block c (h.own.inMem c hc)]
  have hnew:qJ bi w1 (w1.setCells B (k*sz) vs):=fun c hc=>by
    have:=(ho.2 c hc).1;exact hother c (by omega)
  refine⟨cur',g1,h.base,by rw[g2,h.size],by simp [h.len],?_,?_,fun i y ci hi hy hci=>?_⟩
  · exact(h.below.trans (hw.mono (h.below.size))).trans ((only_setCells B (k*sz) vs w1).below (by have:=h.below.size;have:=hw.size;omega) (by simp;exact h.base))
  · rw[List.flatten_append,List.flatten_singleton]
    refine(h.own.same hold).append ((ho.mono (by omega)).same hnew) (fun b hb hb'=>?_);have:=h.own.inMem b hb;have:=(ho.2 b hb').1
    omega
  · by_cases hik:i<k
    · have hci':bss[i]?=some ci:=by rwa [List.getElem?_append_left (by rw[h.len];exact hik)] at hci
      have hmi:(i+1)*sz≤k*sz:=Nat.mul_le_mul_right _ hik;refine hR _ _ _ _ y ci (h.els i y ci hik hy hci') (fun c hc=>hold c (List.mem_flatten.2 ⟨ci,List.mem_of_getElem? hci',hc⟩)) (fun j hj=>?_);exact g4 _ (Or.inl (by rw[Nat.add_mul] at hmi;omega))
    · obtain rfl:i=k:=by omega
      rw[List.getElem?_append_right (by rw[h.len];omega),h.len] at hci
      simp at hci
      subst hci;rw[hx] at hy
      cases hy
      exact hR _ _ _ _ x bi hr hnew (fun j hj=>g3 j (by omega))
theorem Made.done {α:Type} {sz:Nat} {R:ER α} (hR:Fr sz R) {E:TypeId} {w0:World} {l:List α} {B:Nat} {wr:World} {cur:Array Value} {bss:List (List Nat)} (h:Made sz R E w0 l B l.length l.length wr cur bss) (hl:l.length≤maxLen) :
    Sl sz R wr (.slice (some ⟨B,0,none⟩) l.length l.length) l (B::bss.flatten)∧Own w0.heap.size (B::bss.flatten) wr:=by
  refine⟨⟨_,_,rfl,Nat.le_refl _,hl,(fun h=>nomatch h),.inr ⟨B,0,bss,rfl,rfl,h.len,fun i x bi hx hi=>?_⟩⟩,?_⟩
  · have hi':i<l.length:=(List.getElem?_eq_some_iff.1 hx).1
    refine hR _ _ _ _ x bi (h.els i x bi hi' hx hi) (fun _ _=>rfl) (fun j _=>?_);rw[Nat.zero_add];exact(Own.cell0 h.heap _).1
  · refine⟨List.nodup_cons.2 ⟨fun hm=>by have:=(h.own.2 B hm).1;omega,h.own.1⟩,fun b hb=>?_⟩
    rcases List.mem_cons.1 hb with rfl | hb
    · exact⟨h.base,cur,E,h.heap⟩
    · exact⟨by have:=(h.own.2 b hb).1;have:=h.base;omega,(h.own.2 b hb).2⟩
theorem Made.start {α:Type} (sz:Nat) (R:ER α) (E:TypeId) (w:World) (l:List α) (n:Nat) (cur:Array Value) (hc:cur.size=n*sz) :
    Made sz R E w l w.heap.size n 0 (w.alloc (.cells cur E)) cur []:=
  ⟨heap_alloc_new w _,Nat.le_refl _,hc,rfl,(Below.refl _ _).alloc (Nat.le_refl _) _,Own.nil _ _,fun i _ _ hi=>by omega⟩
theorem Made.room {α:Type} {sz:Nat} {R:ER α} {E:TypeId} {w0:World} {l:List α} {B n k:Nat} {wr:World} {cur:Array Value} {bss:List (List Nat)} (h:Made sz R E w0 l B n k wr cur bss) (hk:k<n)
    {w1:World} (hw:Below wr.heap.size wr w1) (j:Nat) (hj:j<sz):(∃ u,w1.cell? ⟨B,k*sz+j,none⟩=some u)∧w1.frozen? ⟨B,k*sz+j,none⟩=false:=by
  have h1:w1.heap[B]?=some (.cells cur E (0,0)):=by rw[hw.block B (lt_of_some h.heap)];exact h.heap
  have hmul:(k+1)*sz≤n*sz:=Nat.mul_le_mul_right _ hk;rw[Nat.add_mul] at hmul;refine⟨?_,(Own.cell0 h1 _).2⟩;exact⟨_,by rw[(Own.cell0 h1 _).1,Array.getElem?_eq_getElem (by rw[h.size];omega)]⟩
def RetSl {α:Type} (sz:Nat) (R:ER α) (l:List α) (w:World) (e:Ending) (w':World):Prop:=
  ∃ v bs,e= .returned v∧Sl sz R w' v l bs∧Own w.heap.size bs w'∧Below w.heap.size w w'
theorem make_n {P:Program} {t e:TypeId} {z:Value} {size bytes:Nat} (ht:P.underlying t=some (.slice e)) (hinfo:(P.info? e).map (fun i=>(i.zero,i.size,i.bytes))=some (some z,size,bytes))
    (n:Nat) (hbytes:bytes*n≤281474976710656) (h63:n≤9223372036854775807) (w:World) :
    (Instr.makeSlice t (.int .i64 (n:Int)) (.int .i64 (n:Int))).run P w= .ok (.slice (some ⟨w.heap.size,0,none⟩) n n) (w.alloc (.cells (madeCells z.cells (n*size)) e)):=by
  obtain⟨i,hi,hzz⟩:=Option.map_eq_some_iff.1 hinfo;simp only[Prod.mk.injEq] at hzz;obtain⟨hz,hs,hb⟩:=hzz
  have hb':(i.bytes:Int)*(n:Int)≤281474976710656:=by
    have h:((i.bytes*n:Nat):Int)≤281474976710656:=by rw[hb];omega
    rwa [Int.natCast_mul] at h
  have hr:=run_make (P:=P) w t e i z ht hi hz .i64 .i64 n n (by omega) (Int.le_refl _) hb' (by omega);simp only[Int.toNat_natCast,hs] at hr;exact hr
def szS {α:Type} (c:α→Nat) (l:List α):Nat:=l.length+(l.map c).sum
def zK {α:Type} (c:α→Nat) (l:List α):Nat:=(l.map c).sum
def mkS {α:Type} (m:α→Int→α) (c:α→Nat):List α→Int→List α
  | [],_=>[]
  | x::r,k=>m x k::mkS m c r (k+c x)
def szR (left:Int) (s:Nat):Int:=if (s:Int)≤left then left - s else -1
section
variable {α:Type} {c:α→Nat} {m:α→Int→α}
theorem cntS_nil:zK c []=0:=rfl
theorem cntS_cons (x:α) (l:List α):zK c (x::l)=c x+zK c l:=by simp [zK]
theorem cntS_append (l r:List α):zK c (l++r)=zK c l+zK c r:=by simp [zK]
theorem take_succ_of {l:List α} {k:Nat} {x:α} (h:l[k]?=some x):l.take (k+1)=l.take k++[x]:=by rw[List.take_add_one,h];rfl
theorem drop_of {l:List α} {k:Nat} {x:α} (h:l[k]?=some x):l.drop k=x::l.drop (k+1):=by
  obtain⟨hk,rfl⟩:=List.getElem?_eq_some_iff.1 h;exact List.drop_eq_getElem_cons hk
theorem kQ {l:List α} {k:Nat} {x:α} (h:l[k]?=some x):zK c (l.take (k+1))=zK c (l.take k)+c x:=by
  rw[take_succ_of h,cntS_append,cntS_cons,cntS_nil,Nat.add_zero]
theorem cntS_take_le {l:List α} (k:Nat):zK c (l.take k)≤zK c l:=by
  conv=>rhs;rw[← List.take_append_drop k l,cntS_append]
  omega
theorem le_cntS {l:List α} {k:Nat} {x:α} (h:l[k]?=some x):c x≤zK c l:=by
  have h1:=kQ (c:=c) h;have h2:=cntS_take_le (c:=c) (l:=l) (k+1)
  omega
theorem cntS_take_add {l:List α} {k:Nat} {x:α} (h:l[k]?=some x):zK c (l.take k)+c x≤zK c l:=by
  have h1:=kQ (c:=c) h;have h2:=cntS_take_le (c:=c) (l:=l) (k+1)
  omega
theorem le_szS {l:List α} {k:Nat} {x:α} (h:l[k]?=some x):c x≤szS c l:=by
  have:=le_cntS (c:=c) h
  unfold szS zK at *
  omega
theorem length_le_szS (l:List α):l.length≤szS c l:=by unfold szS;omega
theorem szS_eq (l:List α):szS c l=l.length+zK c l:=rfl
theorem length_mkS (l:List α) (k:Int):(mkS m c l k).length=l.length:=by
  induction l generalizing k with
  | nil=>rfl
  | cons x r ih=>simp [mkS,ih]
theorem mkS_append (l r:List α) (k:Int):mkS m c (l++r) k=mkS m c l k++mkS m c r (k+zK c l):=by
  induction l generalizing k with
  | nil=>simp [mkS,zK]
  | cons x l ih=>simp only[List.cons_append,mkS,ih,cntS_cons,Int.natCast_add,Int.add_assoc]
theorem getElem?_mkS {l:List α} {i:Nat} {x:α} (h:l[i]?=some x) (k:Int):(mkS m c l k)[i]?=some (m x (k+zK c (l.take i))):=by
  obtain⟨hi,_⟩:=List.getElem?_eq_some_iff.1 h
  have e:l=l.take i++(x::l.drop (i+1)):=by rw[← drop_of h,List.take_append_drop]
  have hl:(mkS m c (l.take i) k).length=i:=by rw[length_mkS,List.length_take];omega
  conv=>lhs;rw[e,mkS_append]
  rw[List.getElem?_append_right (by omega),hl,Nat.sub_self]
  rfl
theorem mk_get {l:List α} {i:Nat} {x:α} (h:l[i]?=some x) (k:Int):(mkS m c (l.take i) k++l.drop i)[i]?=some x:=by
  obtain⟨hi,_⟩:=List.getElem?_eq_some_iff.1 h
  have hl:(mkS m c (l.take i) k).length=i:=by rw[length_mkS,List.length_take];omega
  rw[List.getElem?_append_right (by omega),hl,Nat.sub_self,drop_of h]
  rfl
theorem mk_set {l:List α} {i:Nat} {x:α} (h:l[i]?=some x) (k:Int) :
    (mkS m c (l.take i) k++l.drop i).set i (m x (k+zK c (l.take i)))=mkS m c (l.take (i+1)) k++l.drop (i+1):=by
  obtain⟨hi,_⟩:=List.getElem?_eq_some_iff.1 h
  have hl:(mkS m c (l.take i) k).length=i:=by rw[length_mkS,List.length_take];omega
  rw[List.set_append_right _ _ (by omega),hl,Nat.sub_self,drop_of h,List.set_cons_zero,take_succ_of h,mkS_append,List.append_assoc]
  rfl
theorem mk_len (l:List α) (i:Nat) (hi:i≤l.length) (k:Int):(mkS m c (l.take i) k++l.drop i).length=l.length:=by
  rw[List.length_append,length_mkS,List.length_take,List.length_drop];omega
end
def mkI (_:Int) (k:Int):Int:=k
def cI (_:Int):Nat:=1
abbrev mkInts:=mkS mkI cI
theorem cntI (l:List Int):zK cI l=l.length:=by
  induction l with
  | nil=>rfl
  | cons x r ih=>rw[cntS_cons,ih,List.length_cons];unfold cI;omega
structure Upd (b lo hi:Nat) (bi:List Nat) (w w':World):Prop where
  only:Only (b::bi) w w'
  row:∃ cur e,w'.heap[b]?=some (.cells cur e (0,0))
  out:∀ m,(m<lo∨hi≤m)→w'.cell? ⟨b,m,none⟩=w.cell? ⟨b,m,none⟩
theorem Upd.refl {b lo hi:Nat} {bi:List Nat} {w:World} (h:∃ cur e,w.heap[b]?=some (.cells cur e (0,0))):Upd b lo hi bi w w:=⟨Only.refl _ _,h,fun _ _=>rfl⟩
theorem Upd.set {b lo hi:Nat} {bi:List Nat} {w w':World} (h:Upd b lo hi bi w w') {o:Nat} (ho:lo≤o∧o<hi) (u:Value):Upd b lo hi bi w (w'.setCell ⟨b,o,none⟩ u):=by
  obtain⟨cur,e,hc⟩:=h.row;refine⟨h.only.trans ⟨rfl,rfl,rfl,by simp,fun k _ hn=>Below.heap_setCell _ _ _ _ (fun hk=>hn (by simp [hk]))⟩,⟨_,_,heap_setCell_at _ _ _ _ _ _ _ hc⟩,fun m hm=>?_⟩;rw[World.cell?_setCell_other _ _ _ _ (by intro h;injection h;omega)];exact h.out m hm
theorem Upd.call {b lo hi:Nat} {bi bj:List Nat} {w w' w'':World} (h:Upd b lo hi bi w w') (hj:∀ x∈bj,x∈bi) (hb:b ∉ bi) (hw:Only bj w' w''):Upd b lo hi bi w w'':=by
  obtain⟨cur,e,hc⟩:=h.row;have hbb:w''.heap[b]?=w'.heap[b]?:=hw.block b (lt_of_some hc) (fun hm=>hb (hj b hm));refine⟨h.only.trans (hw.mono (fun x hx=>by simp [hj x hx])),⟨cur,e,by rw[hbb];exact hc⟩,fun m hm=>?_⟩;rw[cell_same hbb];exact h.out m hm
theorem nodup_flatten {bss:List (List Nat)} (h:bss.flatten.Nodup) {i j:Nat} {bi bj:List Nat} (hi:bss[i]?=some bi) (hj:bss[j]?=some bj) (hne:i≠j):∀ x∈bi,x ∉ bj:=by
  intro x hx hx'
  unfold List.Nodup at h
  rw[List.pairwise_flatten] at h;have hp:=List.pairwise_iff_getElem.1 h.2;obtain⟨hi1,rfl⟩:=List.getElem?_eq_some_iff.1 hi;obtain⟨hj1,rfl⟩:=List.getElem?_eq_some_iff.1 hj
  rcases Nat.lt_or_gt_of_ne hne with hl | hl
  · exact hp i j hi1 hj1 hl x hx x hx' rfl
  · exact hp j i hj1 hi1 hl x hx' x hx rfl
theorem Sl.upd {α:Type} {sz:Nat} {R:ER α} (hR:Fr sz R) {w w':World} {n c:Nat} {l:List α} {b o:Nat} {bss:List (List Nat)} (hnl:l.length=n) (hc1:n≤c) (hc2:c≤maxLen) (he:Els sz R w b o l bss) (hn:(b::bss.flatten).Nodup)
    (hin:oZ (b::bss.flatten) w)
    {k:Nat} (hk:k<l.length) {bi:List Nat} (hbi:bss[k]?=some bi) (hu:Upd b (o+k*sz) (o+k*sz+sz) bi w w') {x:α} (hx:R w' (fun j=>w'.cell? ⟨b,o+k*sz+j,none⟩) x bi) :
    Sl sz R w' (.slice (some ⟨b,o,none⟩) n c) (l.set k x) (b::bss.flatten):=by
  subst hnl;refine⟨some ⟨b,o,none⟩,c,by rw[List.length_set],by rw[List.length_set];exact hc1,hc2,(fun h=>nomatch h),.inr ⟨b,o,bss,rfl,rfl,by rw[List.length_set];exact he.1,fun i y bj hy hj=>?_⟩⟩;obtain⟨hnb,hnd⟩:=List.nodup_cons.1 hn
  by_cases hik:i=k
  · subst hik
    rw[List.getElem?_set_self hk] at hy;rw[hbi] at hj
    cases hy;cases hj
    exact hx
  · rw[List.getElem?_set_ne (fun h=>hik h.symm)] at hy
    refine hR w w' _ _ y bj (he.2 i y bj hy hj) (fun d hd=>?_) (fun j hj'=>?_)
    · have hdf:d∈bss.flatten:=List.mem_flatten.2 ⟨bj,List.mem_of_getElem? hj,hd⟩
      refine hu.only.block d (hin d (by simp [hdf])) (fun hm=>?_)
      rcases List.mem_cons.1 hm with rfl | hm
      · exact hnb hdf
      · exact nodup_flatten hnd hbi hj (fun h=>hik h.symm) d hm hd
    · refine hu.out _ ?_
      rcases Nat.lt_or_gt_of_ne hik with hl | hl
      · have:=Nat.mul_le_mul_right sz (show i+1≤k from hl)
        rw[Nat.add_mul] at this
        left;omega
      · have:=Nat.mul_le_mul_right sz (show k+1≤i from hl)
        rw[Nat.add_mul] at this
        right;omega
theorem Own.left {B:Nat} {x y:List Nat} {w:World} (h:Own B (x++y) w):Own B x w:=⟨(List.nodup_append.1 h.1).1,fun b hb=>h.2 b (List.mem_append_left _ hb)⟩
theorem Own.right {B:Nat} {x y:List Nat} {w:World} (h:Own B (x++y) w):Own B y w:=⟨(List.nodup_append.1 h.1).2.1,fun b hb=>h.2 b (List.mem_append_right _ hb)⟩
theorem cell_set (w:World) (b o m:Nat) (u:Value):(w.setCell ⟨b,o,none⟩ u).cell? ⟨b,m,none⟩=if m=o then (w.cell? ⟨b,m,none⟩).map (fun _=>u) else w.cell? ⟨b,m,none⟩:=by
  by_cases h:m=o
  · subst h
    rw[if_pos rfl]
    cases hc:w.cell? ⟨b,m,none⟩ with
    | some v=>exact World.cell?_setCell_same _ _ _ hc
    | none=>
      unfold World.cell? at hc ⊢
      simp only[World.setCell,Array.getElem?_modify,if_true]
      cases hb:w.heap[b]? with
      | none=>simp
      | some x=>
        rw[hb] at hc
        cases x<;>simp_all
  · rw[if_neg h]
    exact World.cell?_setCell_other _ _ _ _ (by intro e;injection e;omega)
theorem Own.split {B b:Nat} {bss:List (List Nat)} {w:World} (h:Own B (b::bss.flatten) w) {j:Nat} {bi:List Nat} (hj:bss[j]?=some bi):b ∉ bi∧Own B bi w:=by
  obtain⟨h1,h2⟩:=List.nodup_cons.1 h.1;have hm:bi∈bss:=List.mem_of_getElem? hj;have hs:∀ x∈bi,x∈bss.flatten:=fun x hx=>List.mem_flatten.2 ⟨bi,hm,hx⟩;refine⟨fun hb=>h1 (hs b hb),?_,fun x hx=>h.2 x (by simp [hs x hx])⟩
  unfold List.Nodup at h2
  rw[List.pairwise_flatten] at h2;exact h2.1 bi hm
theorem Own.upd {B b lo hi:Nat} {bss:List (List Nat)} {w w':World} (h:Own B (b::bss.flatten) w) {bi:List Nat} (hu:Upd b lo hi bi w w') (hi:Own B bi w'):Own B (b::bss.flatten) w':=by
  refine⟨h.1,fun x hx=>⟨(h.2 x hx).1,?_⟩⟩
  by_cases hxb:x=b
  · subst hxb;exact hu.row
  · by_cases hxi:x∈bi
    · exact(hi.2 x hxi).2
    · rw[hu.only.block x (h.inMem x hx) (by simp [hxb,hxi])]
      exact(h.2 x hx).2
theorem Sl.at' {α:Type} {sz:Nat} {R:ER α} {w:World} {a:Option Addr} {n c:Nat} {L:List α} {bs:List Nat} {B:Nat} (h:Sl sz R w (.slice a n c) L bs) (ho:Own B bs w) {j:Nat} (hj:j<L.length) {x:α} (hx:L[j]?=some x) :
    ∃ b o bss bi,a=some ⟨b,o,none⟩∧bs=b::bss.flatten∧Els sz R w b o L bss∧bss[j]?=some bi∧(∀ c∈bi,c∈bs)∧R w (fun i=>w.cell? ⟨b,o+j*sz+i,none⟩) x bi∧∃ cur e,w.heap[b]?=some (.cells cur e (0,0)):=by
  obtain⟨a',c',hv,_,_,_,h4⟩:=h.open
  injection hv with h1 h2 h3
  obtain⟨b,o,bss,bi,e1,rfl,he,hb,hs,hr⟩:=h4 j hj;rw[List.getElem?_eq_getElem hj] at hx
  cases hx
  exact⟨b,o,bss,bi,h1.trans e1,rfl,he,hb,hs,hr,(ho.2 b (by simp)).2⟩
theorem Upd.set' {b lo hi:Nat} {bi:List Nat} {w w':World} {o:Nat} {u:Value} (h:Upd b lo hi bi w w') (ho:lo≤o∧o<hi):Upd b lo hi bi w (w'.setCell ⟨b,o,none⟩ u):=h.set ho u
theorem Only.cell {bs:List Nat} {w w':World} (l:Only bs w w') {b:Nat} (hb:b ∉ bs) (hw:b<w.heap.size):∀ m,w'.cell? ⟨b,m,none⟩=w.cell? ⟨b,m,none⟩:=fun m=>cell_same (l.block b hw hb) m
def Marks {α:Type} (sz:Nat) (R:ER α) (v:Value) (l:List α) (bs:List Nat) (n:Int) (B:Nat) (w:World) (e:Ending) (w':World):Prop:=
  e= .returned (.int .i64 n)∧Only bs w w'∧Sl sz R w' v l bs∧Own B bs w'
def MarksT {α:Type} (sz:Nat) (R:ER α) (v:Value) (x:α) (bs:List Nat) (n:Int) (B:Nat) (w:World) (e:Ending) (w':World):Prop:=
  e= .returned (.int .i64 n)∧Only bs w w'∧zC sz R w' v x bs∧Own B bs w'
def vV (x:Value) (w:World) (e:Ending) (w':World):Prop:=e= .returned x∧Below w.heap.size w w'
theorem bel1 {B:Nat} {w w':World} (h:Below B w w':=by repeat (first | with_reducible exact Below.refl _ _ | ((with_reducible refine Below.setCell ?_ ?_ _);rotate_left;focus first | (simp;done) | (simp;omega)) | ((with_reducible refine Below.alloc ?_ ?_ _);rotate_left;focus (first | (simp;done) | (simp;omega))) | with_reducible apply Below.drew)):Below B w w':=h
theorem blk1 {w:World} {b:Nat} {arr:Array Value} {t:TypeId} (h:kI w b arr t:=by(repeat (first | with_reducible apply kI.set_at | ((with_reducible refine kI.set_far ?_ ?_);rotate_left;focus (first | (simp;done) | (simp;omega))) | ((with_reducible refine kI.new ?_);simp;done) | with_reducible refine kI.old ?_ _));all_goals rfl):kI w b arr t:=h
end Go.Proofs.YticojbhjloeckaaGreat
