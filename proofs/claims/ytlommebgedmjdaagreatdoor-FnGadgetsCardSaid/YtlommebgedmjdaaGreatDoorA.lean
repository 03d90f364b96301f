import Derived.Test.YtlommebgedmjdaaGreatDoorB
namespace Go.Proofs.YtlommebgedmjdaaGreatDoor
set_option linter.unusedVariables false
set_option linter.unusedSimpArgs false
open Go.RowKit
theorem Own.one {B b:Nat} {w:World} {arr:Array Value} {T:TypeId} (h:fI w b arr T) (hB:B≤b):Own B [b] w:=
  ⟨by simp,fun c hc=>by rw[List.mem_singleton] at hc;subst hc;exact⟨hB,arr,T,h⟩⟩
structure App {α:Type} (sz:Nat) (R:ER α) (E:TypeId) (base:Nat) (w0:World) (l:List α) (wr:World) (v:Value) (bss:List (List Nat)):Prop where
  row:∃ xs,wr.ownsRow base E sz v l.length xs∧∀ i x bi,l[i]?=some x→bss[i]?=some bi→R wr (fun j=>xs[i*sz+j]?) x bi
  len:bss.length=l.length
  hbase:w0.heap.size≤base
  own:Own base bss.flatten wr
  apart:∀ b,v.ownBlock=some b→b ∉ bss.flatten
  below:Below w0.heap.size w0 wr
theorem App.lt {α:Type} {sz:Nat} {R:ER α} {E:TypeId} {base:Nat} {w0:World} {l:List α} {wr:World} {v:Value} {bss:List (List Nat)} (h:App sz R E base w0 l wr v bss):∀ b,v.ownBlock=some b→base≤b∧b<wr.heap.size:=by
  obtain⟨xs,ho,_⟩:=h.row;exact ho.lt
theorem App.blk {α:Type} {sz:Nat} {R:ER α} {E:TypeId} {base:Nat} {w0:World} {l:List α} {wr:World} {v:Value} {bss:List (List Nat)} (h:App sz R E base w0 l wr v bss):∀ b,v.ownBlock=some b→∃ cur,wr.heap[b]?=some (.cells cur E (0,0)):=by
  obtain⟨xs,ho,_⟩:=h.row;intro b hb
  rcases ho.2 with ⟨rfl,_⟩ | ⟨g,cap,cur,rfl,_,hg,_⟩
  · simp [Value.ownBlock] at hb
  · simp [Value.ownBlock] at hb
    subst hb;exact⟨cur,hg⟩
theorem App.move {α:Type} {sz:Nat} {R:ER α} (hR:Fr sz R) {E:TypeId} {base:Nat} {w0:World} {l:List α} {wr w1:World} {v:Value} {bss:List (List Nat)} (h:App sz R E base w0 l wr v bss)
    (hv:∀ b,v.ownBlock=some b→w1.heap[b]?=wr.heap[b]?) (hs:cR bss.flatten wr w1) (hb:Below w0.heap.size w0 w1):App sz R E base w0 l w1 v bss:=by
  obtain⟨xs,ho,he⟩:=h.row;refine⟨⟨xs,⟨ho.1,?_⟩,fun i x bi hx hi=>hR _ _ _ _ x bi (he i x bi hx hi) (fun c hc=>hs c (List.mem_flatten.2 ⟨bi,List.mem_of_getElem? hi,hc⟩)) (fun _ _=>rfl)⟩,h.len,h.hbase,h.own.same hs,h.apart,hb⟩
  rcases ho.2 with h1 | ⟨g,cap,cur,rfl,h2,h3,h4⟩
  · exact .inl h1
  · exact .inr ⟨g,cap,cur,rfl,h2,by rw[hv g (by simp [Value.ownBlock])];exact h3,h4⟩
theorem App.set {α:Type} {sz:Nat} {R:ER α} (hR:Fr sz R) {E:TypeId} {base:Nat} {w0:World} {l:List α} {wr:World} {v:Value} {bss:List (List Nat)} (h:App sz R E base w0 l wr v bss) {a:Addr} (h0:w0.heap.size≤a.block)
    (h1:v.ownBlock≠some a.block) (h2:a.block ∉ bss.flatten) (u:Value):App sz R E base w0 l (wr.setCell a u) v bss:=
  h.move hR (fun b hb=>Below.heap_setCell _ _ _ _ (fun e=>h1 (by rw[hb,e]))) (fun b hb=>Below.heap_setCell _ _ _ _ (fun e=>h2 (e ▸ hb))) (h.below.setCell h0 u)
theorem App.nil {α:Type} (sz:Nat) (R:ER α) (E:TypeId) (base:Nat) {w0 w:World} (hb:w0.heap.size≤base) (hw:Below w0.heap.size w0 w):App sz R E base w0 [] w (.slice none 0 0) []:=
  ⟨⟨[],World.ownsRow_nil _ _ _ _,fun i x bi hx=>by simp at hx⟩,rfl,hb,Own.nil _ _,fun b hb=>by simp [Value.ownBlock] at hb,hw⟩
theorem App.empty {α:Type} (sz:Nat) (R:ER α) (E:TypeId) {base b:Nat} {w0 w:World} (hb:w0.heap.size≤base) (hbb:base≤b) (h:fI w b #[] E) (hw:Below w0.heap.size w0 w):App sz R E base w0 [] w (.slice (some ⟨b,0,none⟩) 0 0) []:=
  ⟨⟨[],⟨by simp,.inr ⟨b,0,#[],rfl,hbb,h,Nat.le_refl _,by unfold maxLen;omega,by simp,by simp⟩⟩,fun i x bi hx=>by simp at hx⟩,rfl,hb,Own.nil _ _,fun b hb=>by simp,hw⟩
section
variable {P:Program}
theorem xGz (w:World) (base:Nat) (t ty e:TypeId) (i:TypeInfo) (z:Value) (size bytes:Nat) (ht:P.underlying t=some (.slice e)) (hi:P.info? e=some i) (hz:i.zero=some z)
    (hsize:i.size=size) (hby:i.bytes=bytes) (hzs:z.cells.size=size) (hsz:0<size)
    (v:Value) (n:Nat) (xs:List Value) (hown:w.ownsRow base e size v n xs)
    (a:Addr) (m c:Nat) (news:List Value) (hl:news.length=m*size) (hnews:∀ j u,news[j]?=some u→w.cell? (a.add j)=some u) (h1:∀ u∈news,u.oneCell'=true)
    (h63:n+m≤maxLen) (hbytes:(n+m)*bytes≤140737488355328) (hbase:base≤w.heap.size) :
    ∃ v' w',(Builtin.append_ #[t,t] ty #[v,.slice (some a) m c]).run P w= .ok v' w'∧w'.ownsRow base e size v' (n+m) (xs++news)∧w.grownBy w' v.ownBlock ∧
      (v'.ownBlock=v.ownBlock∨v'.ownBlock=some w.heap.size):=by
  obtain⟨v',w',hr,h2,h3,h4⟩:=run_append_own (P:=P) w base t ty e i z size bytes ht hi hz hsize hby hzs hsz v n xs hown a m c news hl hnews h1 h63 hbytes hbase;refine⟨v',w',hr,h2,h3,?_⟩;subst hsize;subst hby
  have hsmall:n+m≤9223372036854775807:=by simp only[maxLen] at h63;omega
  rcases hown.2 with ⟨rfl,rfl⟩ | ⟨g,cap,cur,rfl,hbg,hg,hnc,hcm,hcs,htake⟩
  · by_cases hm:m=0
    · exact .inl (by rw[h4.2 ⟨rfl,hm⟩])
    · have hr':=run_append_nil (P:=P) w t ty e i z ht hi hz a m c news hl hnews (by omega) (by omega) (by have hb:=hbytes;simp only[Nat.zero_add] at hb;omega)
      rw[hr'] at hr
      injection hr with e1 e2
      subst e1;exact .inr (by simp [Value.ownBlock])
  · by_cases hroom:n+m≤cap
    · have hfit:n*i.size+news.length≤cur.size:=by rw[hl,hcs,← Nat.add_mul];exact Nat.mul_le_mul_right _ hroom
      have hr':=run_append_room (P:=P) w t ty e i ht hi g n cap cur hg a m c news hl hnews h1 hroom hfit;rw[hr'] at hr
      injection hr with e1 e2
      subst e1;exact .inl (by simp [Value.ownBlock])
    · have holds:∀ j u,xs[j]?=some u→w.cell? ((⟨g,0,none⟩:Addr).add j)=some u:=hown.cells (g:=g) rfl
      have hr':=run_append_grow (P:=P) w t ty e i z ht hi hz ⟨g,0,none⟩ n cap xs hown.1 holds a m c news hl hnews (by omega) (by omega) (growslice_fits (by omega) hbytes);rw[hr'] at hr
      injection hr with e1 e2
      subst e1;exact .inr (by simp [Value.ownBlock])
end
end Go.Proofs.YtlommebgedmjdaaGreatDoor
