import Derived.Test.YtlommebgedmjdaaGreatDoorQ
namespace Go.Proofs.YtlommebgedmjdaaGreatDoor
set_option linter.unusedVariables false
set_option linter.unusedSimpArgs false
open Go.RowKit
structure Sm (N:Nat→Prop) (w w':World):Prop where
  blk:∀ c,N c→w'.heap[c]?=w.heap[c]?
theorem Sm.refl (N:Nat→Prop) (w:World):Sm N w w:=⟨fun _ _=>rfl⟩
theorem Sm.trans {N:Nat→Prop} {a b c:World} (h:Sm N a b) (k:Sm N b c):Sm N a c:=⟨fun x hx=>(k.blk x hx).trans (h.blk x hx)⟩
theorem Sm.mono {M N:Nat→Prop} {a b:World} (h:Sm N a b) (hs:∀ c,M c→N c):Sm M a b:=⟨fun x hx=>h.blk x (hs x hx)⟩
instance (N:Nat→Prop):KOk (Sm N):=⟨Sm.refl N,Sm.trans⟩
def All (w:World) (c:Nat):Prop:=c<w.heap.size
theorem Sm.all {w w':World} (l:Below w.heap.size w w'):Sm (All w) w w':=⟨fun c hc=>l.block c hc⟩
def Bo {α:Type} (N:Nat→Prop) (w:World) (V:VR α) (v:Value) (x:α):Prop:=∃ bs,Rd V w v x bs∧∀ c∈bs,N c
section
variable {α:Type} {M N:Nat→Prop} {V:VR α} {w w':World} {v:Value} {x:α}
theorem Bo.to [hV:VF V] (h:Bo N w V v x) (s:Sm N w w'):Bo N w' V v x:=by
  obtain⟨bs,h1,h2⟩:=h;refine⟨bs,⟨hV.same h1.r (fun b hb=>s.blk b (h2 b hb)),fun b hb=>?_⟩,h2⟩;have h3:=s.blk b (h2 b hb);rw[Array.getElem?_eq_getElem (h1.m b hb)] at h3;exact(Array.getElem?_eq_some_iff.1 h3).1
theorem Bo.mono (h:Bo M w V v x) (hs:∀ c,M c→N c):Bo N w V v x:=let ⟨bs,h1,h2⟩:=h;⟨bs,h1,fun c hc=>hs c (h2 c hc)⟩
theorem Bo.all (h:Bo N w V v x):Bo (All w) w V v x:=let ⟨bs,h1,_⟩:=h;⟨bs,h1,h1.m⟩
theorem Bo.of {bs:List Nat} (h:Rd V w v x bs):Bo (All w) w V v x:=⟨bs,h,h.m⟩
end
structure As where
  N:Nat→Prop
  P:World→List Nat→Prop
  st:∀ {w w':World} {Y:List Nat},P w Y→(∀ c∈Y,w'.heap[c]?=w.heap[c]?)→(∀ c,N c→w'.heap[c]?=w.heap[c]?)→w.heap.size≤w'.heap.size→P w' Y
abbrev N0:Nat→Prop:=fun _=>False
def bx (b:Nat) (cs:List Value) (T:TypeId):As:=⟨N0,fun w Y=>fI w b cs.toArray T∧b∈Y,fun h h1 _ _=>⟨(h1 _ h.2).trans h.1,h.2⟩⟩
def rw(N:Nat→Prop) {α:Type} (sz:Nat) (R:ER α) [hR:FrC sz R] (E:TypeId) (v:Value) (xs:List α):As:=
  ⟨N,fun w Y=>∃ rb ib,Row sz R E 0 w v xs rb ib∧(∀ c∈rb,c∈Y)∧∀ c∈ib,c∈Y∨N c,fun h h1 h2 hs=>by
    obtain⟨rb,ib,h3,h4,h5⟩:=h
    exact⟨rb,ib,h3.keep (fun c hc=>h1 c (h4 c hc)) (fun c hc=>(h5 c hc).elim (h1 c) (h2 c)) hs,h4,h5⟩⟩
def ro (N:Nat→Prop) {α:Type} {V:VR α} [hV:VF V] (v:Value) (x:α):As:=
  ⟨N,fun w Y=>∃ bs,Rd V w v x bs∧∀ c∈bs,c∈Y∨N c,fun h h1 h2 hs=>by
    obtain⟨bs,h3,h4⟩:=h
    exact⟨bs,⟨hV.same h3.r (fun c hc=>(h4 c hc).elim (h1 c) (h2 c)),h3.m.le hs⟩,h4⟩⟩
def ow {α:Type} {V:VR α} [hV:VF V] (v:Value) (x:α):As:=
  ⟨N0,fun w Y=>∃ bs,Rd V w v x bs∧Own 0 bs w∧∀ c∈bs,c∈Y,fun h h1 _ hs=>by
    obtain⟨bs,h3,h4,h5⟩:=h
    exact⟨bs,⟨hV.same h3.r (fun c hc=>h1 c (h5 c hc)),h3.m.le hs⟩,h4.same (fun c hc=>h1 c (h5 c hc)),h5⟩⟩
def rl {α:Type} (sz:Nat) (R:ER α) [hR:FrC sz R] (E:TypeId) (v:Value) (xs:List α):As:=
  ⟨N0,fun w Y=>∃ rb ib,Row sz R E 0 w v xs rb ib∧Own 0 ib w∧(∀ c∈rb,c∈Y)∧∀ c∈ib,c∈Y,fun h h1 _ hs=>by
    obtain⟨rb,ib,h3,h6,h4,h5⟩:=h
    exact⟨rb,ib,h3.keep (fun c hc=>h1 c (h4 c hc)) (fun c hc=>h1 c (h5 c hc)) hs,h6.same (fun c hc=>h1 c (h5 c hc)),h4,h5⟩⟩
def pr (A B:As):As:=⟨fun c=>A.N c∨B.N c,fun w Y=>∃ Y1 Y2,A.P w Y1∧B.P w Y2∧Dj Y1 Y2∧(∀ c∈Y1,c∈Y)∧∀ c∈Y2,c∈Y,fun h h1 h2 hs=>by
    obtain⟨Y1,Y2,h3,h4,h5,h6,h7⟩:=h
    exact⟨Y1,Y2,A.st h3 (fun c hc=>h1 c (h6 c hc)) (fun c hc=>h2 c (.inl hc)) hs,B.st h4 (fun c hc=>h1 c (h7 c hc)) (fun c hc=>h2 c (.inr hc)) hs,h5,h6,h7⟩⟩
structure Sep (X:List Nat) (N:Nat→Prop) (w0 w:World) (L:List As):Prop where
  fr:Only X w0 w
  nb:∀ c,N c→c<w0.heap.size∧c ∉ X
  ex:∃ Y:Nat→List Nat,(∀ i A,L[i]?=some A→A.P w (Y i)∧(∀ c,A.N c→N c)∧∀ c∈Y i,c<w.heap.size∧(c∈X∨w0.heap.size≤c))∧∀ i j,i<L.length→j<L.length→i≠j→Dj (Y i) (Y j)
section
variable {X:List Nat} {N:Nat→Prop} {w0 w w':World} {L:List As} {A B:As}
theorem Sep.sm (H:Sep X N w0 w L):Sm N w0 w:=⟨fun c hc=>H.fr.block c (H.nb c hc).1 (H.nb c hc).2⟩
theorem Sep.bl (H:Sep [] N w0 w L):Below w0.heap.size w0 w:=H.fr.below (Nat.le_refl _) (fun _ h=>nomatch h)
theorem Sep.start (h:∀ c,N c→c<w.heap.size):Sep [] N w w []:=
  ⟨Only.refl _ _,fun c hc=>⟨h c hc,fun h=>nomatch h⟩,fun _=>[],fun i A h=>(by cases i<;>cases h),fun i j h=>absurd h (Nat.not_lt_zero _)⟩
theorem Sep.own {i:Nat} {c:Nat} (hX:c∈X∨w0.heap.size≤c) (H:Sep X N w0 w L):¬ N c:=fun hN=>by
  have h:=H.nb c hN
  rcases hX with h1 | h1
  · exact h.2 h1
  · omega
theorem Sep.turn (H:Sep X N w0 w L) (l:Only [] w w'):Sep X N w0 w' L:=by
  obtain⟨Y,h1,h2⟩:=H.ex;have hb:∀ c,c<w.heap.size→w'.heap[c]?=w.heap[c]?:=fun c hc=>l.block c hc (fun h=>nomatch h);refine⟨H.fr.trans (l.mono (fun _ h=>nomatch h)),H.nb,Y,fun i A hi=>?_,h2⟩;obtain⟨h3,h4,h5⟩:=h1 i A hi;exact⟨A.st h3 (fun c hc=>hb c (h5 c hc).1) (fun c hc=>hb c (Nat.lt_of_lt_of_le (H.nb c (h4 c hc)).1 H.fr.size)) l.size,h4,fun c hc=>⟨Nat.lt_of_lt_of_le (h5 c hc).1 l.size,(h5 c hc).2⟩⟩
theorem Sep.go (H:Sep X N w0 w L) (l:Below w.heap.size w w'):Sep X N w0 w' L:=H.turn (Only.of_below l)
theorem Sep.drew (H:Sep X N w0 w L):Sep X N w0 w.drew L:=H.go (Below.refl _ _).drew
def sel (L:List As):List Nat→Option (List As)
  | []=>some []
  | i::r=>match L[i]?,sel L r with
    | some A,some M=>some (A::M)
    | _,_=>none
def xGh:List Nat→Bool
  | []=>true
  | i::r=>r.all (fun j=>!(Nat.beq i j)) && xGh r
theorem xPl:∀ {is:List Nat} {M:List As},sel L is=some M→is.length=M.length∧∀ (k:Nat) A,M[k]?=some A→∃ i,is[k]?=some i∧L[i]?=some A
  | [],M,h=>by cases h;exact⟨rfl,fun k A h=>by cases k<;>cases h⟩
  | i::r,M,h=>by
    unfold sel at h
    cases h1:L[i]? with
    | none=>simp [h1] at h
    | some A=>
      cases h2:sel L r with
      | none=>simp [h1,h2] at h
      | some M'=>
        simp only[h1,h2,Option.some.injEq] at h;subst h;obtain⟨h3,h4⟩:=xPl h2;refine⟨by simp [h3],fun k B hk=>?_⟩
        cases k with
        | zero=>simp at hk;subst hk;exact⟨i,rfl,h1⟩
        | succ k=>simpa using h4 k B (by simpa using hk)
theorem xIg:∀ {is:List Nat},xGh is=true→∀ (a b i j:Nat),is[a]?=some i→is[b]?=some j→a≠b→i≠j
  | [],_,a,_,_,_,h,_,_=>by cases a<;>cases h
  | x::r,hn,a,b,i,j,ha,hb,hab=>by
    unfold xGh at hn
    rw[Bool.and_eq_true] at hn
    have hx:∀ (k y:Nat),r[k]?=some y→x≠y:=fun k y hk=>by
      have:=List.all_eq_true.1 hn.1 y (List.mem_of_getElem? hk);intro e;subst e
      simp at this
    cases a with
    | zero=>
      cases b with
      | zero=>exact absurd rfl hab
      | succ b=>simp at ha;subst ha;exact hx b j (by simpa using hb)
    | succ a=>
      cases b with
      | zero=>simp at hb;subst hb;exact(hx a i (by simpa using ha)).symm
      | succ b=>exact xIg hn.2 a b i j (by simpa using ha) (by simpa using hb) (by omega)
theorem Sep.s (H:Sep X N w0 w L) (is:List Nat) {M:List As} (h:sel L is=some M) (hn:xGh is=true):Sep X N w0 w M:=by
  obtain⟨Y,h1,h2⟩:=H.ex;obtain⟨h3,h4⟩:=xPl h;refine⟨H.fr,H.nb,fun k=>Y (is.getD k 0),fun k A hk=>?_,fun a b ha hb hab=>?_⟩
  · obtain⟨i,hi,hA⟩:=h4 k A hk
    have e:is.getD k 0=i:=by rw[List.getD_eq_getElem?_getD,hi];rfl
    dsimp only
    rw[e];exact h1 i A hA
  · obtain⟨i,hi,hA⟩:=h4 a _ (List.getElem?_eq_getElem ha)
    obtain⟨j,hj,hB⟩:=h4 b _ (List.getElem?_eq_getElem hb)
    have e:is.getD a 0=i:=by rw[List.getD_eq_getElem?_getD,hi];rfl
    have e':is.getD b 0=j:=by rw[List.getD_eq_getElem?_getD,hj];rfl
    dsimp only
    rw[e,e'];exact h2 i j (List.getElem?_eq_some_iff.1 hA).1 (List.getElem?_eq_some_iff.1 hB).1 (xIg hn a b i j hi hj hab)
theorem Sep.push (H:Sep X N w0 w L) (l:Below w.heap.size w w') {Y0:List Nat} (hP:A.P w' Y0) (hN:∀ c,A.N c→N c) (hY:∀ c∈Y0,w.heap.size≤c∧c<w'.heap.size):Sep X N w0 w' (A::L):=by
  have H':=H.go l;obtain⟨Y,h1,h2⟩:=H'.ex;obtain⟨Z,h5,h6⟩:=H.ex;refine⟨H'.fr,H'.nb,fun i=>match i with | 0=>Y0 | i+1=>Z i,fun i B hi=>?_,fun i j hi hj hij=>?_⟩
  · cases i with
    | zero=>
      simp at hi
      subst hi;exact⟨hP,hN,fun c hc=>⟨(hY c hc).2,.inr (Nat.le_trans H.fr.size (hY c hc).1)⟩⟩
    | succ i=>
      have hi':L[i]?=some B:=by simpa using hi
      obtain⟨h3,h4,h7⟩:=h5 i B hi';exact⟨B.st h3 (fun c hc=>l.block c (h7 c hc).1) (fun c hc=>l.block c (Nat.lt_of_lt_of_le (H.nb c (h4 c hc)).1 H.fr.size)) l.size,h4,fun c hc=>⟨Nat.lt_of_lt_of_le (h7 c hc).1 l.size,(h7 c hc).2⟩⟩
  · have old:∀ k,k<L.length→∀ c∈Z k,c<w.heap.size:=fun k hk c hc=>((h5 k _ (List.getElem?_eq_getElem hk)).2.2 c hc).1
    cases i with
    | zero=>
      cases j with
      | zero=>exact absurd rfl hij
      | succ j=>exact fun c hc hc'=>by have:=(hY c hc).1;have:=old j (by simpa using hj) c hc';omega
    | succ i=>
      cases j with
      | zero=>exact fun c hc hc'=>by have:=(hY c hc').1;have:=old i (by simpa using hi) c hc;omega
      | succ j=>exact h6 i j (by simpa using hi) (by simpa using hj) (by omega)
theorem Sep.hd (H:Sep X N w0 w (A::L)):∃ Y0,A.P w Y0∧(∀ c,A.N c→N c)∧(∀ c∈Y0,c<w.heap.size∧¬ N c) ∧
    ∀ {w':World} {Z:List Nat},(∀ c∈Z,c∈Y0)→Only Z w w'→∀ {B:As} {Y1:List Nat},B.P w' Y1→(∀ c,B.N c→N c)→(∀ c∈Y1,(c∈Y0∨w.heap.size≤c)∧c<w'.heap.size)→Sep X N w0 w' (B::L):=by
  obtain⟨Y,h1,h2⟩:=H.ex;obtain⟨h3,h4,h5⟩:=h1 0 A rfl;refine⟨Y 0,h3,h4,fun c hc=>⟨(h5 c hc).1,Sep.own (i:=0) (h5 c hc).2 H⟩,fun {w' Z} hZ l {B Y1} hP hN hY=>?_⟩;have hl:Only (Y 0) w w':=l.mono hZ;refine⟨?_,H.nb,fun i=>match i with | 0=>Y1 | i+1=>Y (i+1),fun i C hi=>?_,fun i j hi hj hij=>?_⟩
  · refine⟨hl.os.trans H.fr.os,hl.tape.trans H.fr.tape,hl.output.trans H.fr.output,Nat.le_trans H.fr.size hl.size,fun k hk hn=>?_⟩
    rw[hl.block k (Nat.lt_of_lt_of_le hk H.fr.size) (fun hm=>by rcases(h5 k hm).2 with h | h;exact hn h;omega),H.fr.block k hk hn]
  · cases i with
    | zero=>
      simp at hi
      subst hi;refine⟨hP,hN,fun c hc=>⟨(hY c hc).2,?_⟩⟩
      rcases(hY c hc).1 with h | h
      · exact(h5 c h).2
      · exact .inr (Nat.le_trans H.fr.size h)
    | succ i=>
      obtain⟨h6,h7,h8⟩:=h1 (i+1) C (by simpa using hi)
      have hlt:i+1<(A::L).length:=by simpa using (List.getElem?_eq_some_iff.1 hi).1
      have hd:Dj (Y (i+1)) (Y 0):=h2 (i+1) 0 hlt (by simp) (by omega);refine⟨C.st h6 (fun c hc=>hl.block c (h8 c hc).1 (hd c hc)) (fun c hc=>?_) hl.size,h7,fun c hc=>⟨Nat.lt_of_lt_of_le (h8 c hc).1 hl.size,(h8 c hc).2⟩⟩;refine hl.block c (Nat.lt_of_lt_of_le (H.nb c (h7 c hc)).1 H.fr.size) (fun hm=>?_);exact Sep.own (i:=0) (h5 c hm).2 H (h7 c hc)
  · have key:∀ k,k+1<(A::L).length→Dj Y1 (Y (k+1)):=fun k hk c hc hc'=>by
      rcases(hY c hc).1 with h | h
      · exact h2 0 (k+1) (by simp) hk (by omega) c h hc'
      · have:=(h1 (k+1) _ (List.getElem?_eq_getElem hk)).2.2 c hc'
        omega
    cases i with
    | zero=>
      cases j with
      | zero=>exact absurd rfl hij
      | succ j=>exact key j (by simpa using hj)
    | succ i=>
      cases j with
      | zero=>exact(key i (by simpa using hi)).symm
      | succ j=>exact h2 (i+1) (j+1) (by simpa using hi) (by simpa using hj) hij
theorem Sep.mg (H:Sep X N w0 w (A::B::L)):Sep X N w0 w (pr A B::L):=by
  obtain⟨Y,h1,h2⟩:=H.ex;obtain⟨h3,h4,h5⟩:=h1 0 A rfl;obtain⟨h6,h7,h8⟩:=h1 1 B rfl;refine⟨H.fr,H.nb,fun i=>match i with | 0=>Y 0++Y 1 | i+1=>Y (i+2),fun i C hi=>?_,fun i j hi hj hij=>?_⟩
  · cases i with
    | zero=>
      simp at hi
      subst hi;exact⟨⟨Y 0,Y 1,h3,h6,h2 0 1 (by simp) (by simp) (by omega),fun c hc=>List.mem_append_left _ hc,fun c hc=>List.mem_append_right _ hc⟩,fun c hc=>hc.elim (h4 c) (h7 c),fun c hc=>(List.mem_append.1 hc).elim (h5 c) (h8 c)⟩
    | succ i=>exact h1 (i+2) C (by simpa using hi)
  · have key:∀ k,k+2<(A::B::L).length→Dj (Y 0++Y 1) (Y (k+2)):=fun k hk=>Dj.app' (h2 0 (k+2) (by simp) hk (by omega)) (h2 1 (k+2) (by simp) hk (by omega))
    cases i with
    | zero=>
      cases j with
      | zero=>exact absurd rfl hij
      | succ j=>exact key j (by simpa using hj)
    | succ i=>
      cases j with
      | zero=>exact(key i (by simpa using hi)).symm
      | succ j=>exact h2 (i+2) (j+2) (by simpa using hi) (by simpa using hj) (by omega)
theorem Sep.um (H:Sep X N w0 w (pr A B::L)):Sep X N w0 w (A::B::L):=by
  obtain⟨Y,h1,h2⟩:=H.ex;obtain⟨⟨Y1,Y2,p1,p2,dj,y1,y2⟩,h4,h5⟩:=h1 0 _ rfl;refine⟨H.fr,H.nb,fun i=>match i with | 0=>Y1 | 1=>Y2 | i+2=>Y (i+1),fun i C hi=>?_,fun i j hi hj hij=>?_⟩
  · match i,hi with
    | 0,hi=>
      simp at hi
      subst hi;exact⟨p1,fun c hc=>h4 c (.inl hc),fun c hc=>h5 c (y1 c hc)⟩
    | 1,hi=>
      simp at hi
      subst hi;exact⟨p2,fun c hc=>h4 c (.inr hc),fun c hc=>h5 c (y2 c hc)⟩
    | i+2,hi=>exact h1 (i+1) C (by simpa using hi)
  · have k1:∀ k,k+2<(A::B::L).length→Dj Y1 (Y (k+1))∧Dj Y2 (Y (k+1)):=fun k hk=>by
      have:=h2 0 (k+1) (by simp) (by simpa using hk) (by omega);exact⟨fun c hc=>this c (y1 c hc),fun c hc=>this c (y2 c hc)⟩
    match i,j,hi,hj,hij with
    | 0,0,_,_,h=>exact absurd rfl h
    | 0,1,_,_,_=>exact dj
    | 1,0,_,_,_=>exact dj.symm
    | 1,1,_,_,h=>exact absurd rfl h
    | 0,j+2,_,hj,_=>exact(k1 j hj).1
    | 1,j+2,_,hj,_=>exact(k1 j hj).2
    | i+2,0,hi,_,_=>exact(k1 i hi).1.symm
    | i+2,1,hi,_,_=>exact(k1 i hi).2.symm
    | i+2,j+2,hi,hj,h=>exact h2 (i+1) (j+1) (by simpa using hi) (by simpa using hj) (by omega)
theorem Sep.ret {M:Nat→Prop} {K:List As} (H:Sep X N w0 w L) (S:Sep [] M w w' K) (hN:∀ A∈K,∀ c,A.N c→N c):Sep X N w0 w' (K++L):=by
  obtain⟨Y,h1,h2⟩:=(H.go S.bl).ex;obtain⟨Y',h1',h2'⟩:=H.ex;obtain⟨Z,h3,h4⟩:=S.ex
  have hZ:∀ (i:Nat),i<K.length→∀ c∈Z i,w.heap.size≤c∧c<w'.heap.size:=fun i hi c hc=>by
    have:=(h3 i _ (List.getElem?_eq_getElem hi)).2.2 c hc;exact⟨this.2.resolve_left (fun h=>nomatch h),this.1⟩
  refine⟨(H.go S.bl).fr,H.nb,fun i=>if i<K.length then Z i else Y' (i - K.length),fun i A hi=>?_,fun i j hi hj hij=>?_⟩
  · dsimp only
    by_cases hk:i<K.length
    · rw[if_pos hk]
      rw[List.getElem?_append_left hk] at hi;refine⟨(h3 i A hi).1,hN A (List.mem_of_getElem? hi),fun c hc=>⟨(hZ i hk c hc).2,.inr (Nat.le_trans H.fr.size (hZ i hk c hc).1)⟩⟩
    · rw[if_neg hk]
      rw[List.getElem?_append_right (by omega)] at hi;obtain⟨h5,h6,h7⟩:=h1' _ A hi;have l:=S.bl;exact⟨A.st h5 (fun c hc=>l.block c (h7 c hc).1) (fun c hc=>l.block c (Nat.lt_of_lt_of_le (H.nb c (h6 c hc)).1 H.fr.size)) l.size,h6,fun c hc=>⟨Nat.lt_of_lt_of_le (h7 c hc).1 l.size,(h7 c hc).2⟩⟩
  · have old:∀ (k:Nat),k<L.length→∀ c∈Y' k,c<w.heap.size:=fun k hk c hc=>((h1' k _ (List.getElem?_eq_getElem hk)).2.2 c hc).1
    rw[List.length_append] at hi hj
    dsimp only
    by_cases hik:i<K.length
    · by_cases hjk:j<K.length
      · rw[if_pos hik,if_pos hjk];exact h4 i j hik hjk hij
      · rw[if_pos hik,if_neg hjk]
        exact fun c hc hc'=>by have:=(hZ i hik c hc).1;have:=old _ (by omega) c hc';omega
    · by_cases hjk:j<K.length
      · rw[if_neg hik,if_pos hjk]
        exact fun c hc hc'=>by have:=(hZ j hjk c hc').1;have:=old _ (by omega) c hc;omega
      · rw[if_neg hik,if_neg hjk];exact h2' _ _ (by omega) (by omega) (by omega)
def Rdg (N:Nat→Prop) (w:World) (A:As):Prop:=∃ Y,A.P w Y∧(∀ c∈Y,N c)∧∀ c,A.N c→N c
theorem Sep.g (H:Sep X N w0 w L) (i:Nat) (hi:L[i]?=some A):Rdg (All w) w A:=by
  obtain⟨Y,h1,_⟩:=H.ex;obtain⟨h3,h4,h5⟩:=h1 i A hi;exact⟨Y i,h3,fun c hc=>(h5 c hc).1,fun c hc=>Nat.lt_of_lt_of_le (H.nb c (h4 c hc)).1 H.fr.size⟩
theorem Rdg.rd {M N:Nat→Prop} {α:Type} {sz:Nat} {R:ER α} [hR:FrC sz R] {E:TypeId} {v:Value} {xs:List α} (h:Rdg N w (rw M sz R E v xs)):Bo N w (Sl sz R) v xs:=by
  obtain⟨Y,⟨rb,ib,h1,h2,h3⟩,h4,h5⟩:=h;exact⟨_,h1.rd,fun c hc=>(List.mem_append.1 hc).elim (fun hc=>h4 c (h2 c hc)) (fun hc=>(h3 c hc).elim (h4 c) (h5 c))⟩
theorem Rdg.rod {M N:Nat→Prop} {α:Type} {V:VR α} [hV:VF V] {v:Value} {x:α} (h:Rdg N w (ro M (V:=V) v x)):Bo N w V v x:=by
  obtain⟨Y,⟨bs,h1,h2⟩,h4,h5⟩:=h;exact⟨bs,h1,fun c hc=>(h2 c hc).elim (h4 c) (h5 c)⟩
theorem Rdg.od {N:Nat→Prop} {α:Type} {V:VR α} [hV:VF V] {v:Value} {x:α} (h:Rdg N w (ow (V:=V) v x)):Bo N w V v x:=by
  obtain⟨Y,⟨bs,h1,_,h2⟩,h4,h5⟩:=h;exact⟨bs,h1,fun c hc=>h4 c (h2 c hc)⟩
theorem Rdg.ld {N:Nat→Prop} {α:Type} {sz:Nat} {R:ER α} [hR:FrC sz R] {E:TypeId} {v:Value} {xs:List α} (h:Rdg N w (rl sz R E v xs)):Bo N w (Sl sz R) v xs:=by
  obtain⟨Y,⟨rb,ib,h1,_,h2,h3⟩,h4,h5⟩:=h;exact⟨_,h1.rd,fun c hc=>(List.mem_append.1 hc).elim (fun hc=>h4 c (h2 c hc)) (fun hc=>h4 c (h3 c hc))⟩
def Bk (N:Nat→Prop) (w:World) (b:Nat) (cs:List Value) (T:TypeId):Prop:=fI w b cs.toArray T∧N b
theorem Rdg.bk {N:Nat→Prop} {b:Nat} {cs:List Value} {T:TypeId} (h:Rdg N w (bx b cs T)):Bk N w b cs T:=let ⟨_,h1,h2,_⟩:=h;⟨h1.1,h2 _ h1.2⟩
theorem Sep.r {M:Nat→Prop} {α:Type} {sz:Nat} {R:ER α} [hR:FrC sz R] {E:TypeId} {v:Value} {xs:List α} (H:Sep X N w0 w L) (i:Nat) (hi:L[i]?=some (rw M sz R E v xs)):Bo (All w) w (Sl sz R) v xs:=(H.g i hi).rd
theorem Sep.ro {M:Nat→Prop} {α:Type} {V:VR α} [hV:VF V] {v:Value} {x:α} (H:Sep X N w0 w L) (i:Nat) (hi:L[i]?=some (Go.Proofs.YtlommebgedmjdaaGreatDoor.ro M (V:=V) v x)):Bo (All w) w V v x:=(H.g i hi).rod
theorem Sep.o {α:Type} {V:VR α} [hV:VF V] {v:Value} {x:α} (H:Sep X N w0 w L) (i:Nat) (hi:L[i]?=some (ow (V:=V) v x)):Bo (All w) w V v x:=(H.g i hi).od
theorem Sep.l {α:Type} {sz:Nat} {R:ER α} [hR:FrC sz R] {E:TypeId} {v:Value} {xs:List α} (H:Sep X N w0 w L) (i:Nat) (hi:L[i]?=some (rl sz R E v xs)):Bo (All w) w (Sl sz R) v xs:=(H.g i hi).ld
theorem Sep.b {b:Nat} {cs:List Value} {T:TypeId} (H:Sep X N w0 w L) (i:Nat) (hi:L[i]?=some (bx b cs T)):fI w b cs.toArray T:=(H.g i hi).bk.1
theorem Sep.a {α:Type} {V:VR α} [hV:VF V] {v:Value} {x:α} (H:Sep X N w0 w L) (h:Bo N w0 V v x):Bo (All w) w V v x:=(h.to H.sm).all
theorem Sep.u {α:Type} {V:VR α} [hV:VF V] {v:Value} {x:α} (H:Sep X N w0 w L) (h:Bo N w0 V v x):Bo N w V v x:=h.to H.sm
theorem Sep.dn {α:Type} {V:VR α} [hV:VF V] {v:Value} {x:α} (H:Sep X N w0 w L) (h:Bo N w V v x):Bo N w0 V v x:=h.to ⟨fun c hc=>(H.sm.blk c hc).symm⟩
def Lf (M:Nat→Prop) (u:World) (N:Nat→Prop) (w:World):Prop:=∀ {α:Type} {V:VR α} [VF V] {v:Value} {x:α},Bo M u V v x→Bo N w V v x
theorem Sep.fz (H:Sep X N w0 w (A::L)):∃ (X1:List Nat) (N1:Nat→Prop),Rdg N1 w A∧Lf N w0 N1 w∧Sep X1 N1 w w L ∧
    (∀ {w':World} {K:List As},Sep X1 N1 w w' K→(∀ B∈K,∀ c,B.N c→N c)→Sep X N w0 w' (A::K)) ∧
    (∀ {w':World} {K:List As} {α:Type} {V:VR α} [VF V] {v:Value} {x:α},Sep X1 N1 w w' (Go.Proofs.YtlommebgedmjdaaGreatDoor.ro N1 (V:=V) v x::K)→(∀ B∈K,∀ c,B.N c→N c)→Sep X N w0 w' (Go.Proofs.YtlommebgedmjdaaGreatDoor.ro N (V:=V) v x::K))∧(∀ c,N c→N1 c):=by
  obtain⟨Y,h1,h2⟩:=H.ex;obtain⟨h3,h4,h5⟩:=h1 0 A rfl
  have hX1:∀ c,c∈(List.range L.length).flatMap (fun i=>Y (i+1))↔∃ i,i<L.length∧c∈Y (i+1):=fun c=>by simp
  have own:∀ i,i<L.length→∀ c∈Y (i+1),c<w.heap.size∧(c∈X∨w0.heap.size≤c):=fun i hi c hc=>(h1 (i+1) L[i] (by simp [hi])).2.2 c hc
  have hnot:∀ c,(N c∨c∈Y 0)→c ∉ (List.range L.length).flatMap (fun i=>Y (i+1)):=fun c hc hm=>by
    obtain⟨i,hi,hci⟩:=(hX1 c).1 hm
    rcases hc with hc | hc
    · exact Sep.own (i:=0) (own i hi c hci).2 H hc
    · exact h2 0 (i+1) (by simp) (by simp [hi]) (by omega) c hc hci
  refine⟨(List.range L.length).flatMap (fun i=>Y (i+1)),fun c=>N c∨c∈Y 0,⟨Y 0,h3,fun c hc=>.inr hc,fun c hc=>.inl (h4 c hc)⟩,fun h=>(h.to H.sm).mono (fun c hc=>.inl hc),⟨Only.refl _ _,fun c hc=>⟨?_,hnot c hc⟩,fun i=>Y (i+1),fun i B hi=>?_,fun i j hi hj hij=>h2 (i+1) (j+1) (by simpa using hi) (by simpa using hj) (by omega)⟩,fun {w' K} S hN=>?_,fun {w' K α V hV v x} S hN=>?_,fun c hc=>.inl hc⟩
  · rcases hc with hc | hc
    · exact Nat.lt_of_lt_of_le (H.nb c hc).1 H.fr.size
    · exact(h5 c hc).1
  · have hlt:=(List.getElem?_eq_some_iff.1 hi).1
    obtain⟨h6,h7,h8⟩:=h1 (i+1) B (by simpa using hi);exact⟨h6,fun c hc=>.inl (h7 c hc),fun c hc=>⟨(h8 c hc).1,.inl ((hX1 c).2 ⟨i,hlt,hc⟩)⟩⟩
  · obtain⟨Z,g1,g2⟩:=S.ex
    have hX1X:∀ c,c∈(List.range L.length).flatMap (fun i=>Y (i+1))→c∈X∨w0.heap.size≤c:=fun c hc=>by
      obtain⟨i,hi,hci⟩:=(hX1 c).1 hc;exact(own i hi c hci).2
    refine⟨⟨S.fr.os.trans H.fr.os,S.fr.tape.trans H.fr.tape,S.fr.output.trans H.fr.output,Nat.le_trans H.fr.size S.fr.size,fun k hk hn=>?_⟩,H.nb,fun i=>match i with | 0=>Y 0 | i+1=>Z i,fun i B hi=>?_,fun i j hi hj hij=>?_⟩
    · rw[S.fr.block k (Nat.lt_of_lt_of_le hk H.fr.size) (fun hm=>by rcases hX1X k hm with h | h;exact hn h;omega),H.fr.block k hk hn]
    · cases i with
      | zero=>
        simp at hi
        subst hi;exact⟨A.st h3 (fun c hc=>S.sm.blk c (.inr hc)) (fun c hc=>S.sm.blk c (.inl (h4 c hc))) S.fr.size,h4,fun c hc=>⟨Nat.lt_of_lt_of_le (h5 c hc).1 S.fr.size,(h5 c hc).2⟩⟩
      | succ i=>
        have hi':K[i]?=some B:=by simpa using hi
        obtain⟨g3,g4,g5⟩:=g1 i B hi';refine⟨g3,hN B (List.mem_of_getElem? hi'),fun c hc=>⟨(g5 c hc).1,?_⟩⟩
        rcases(g5 c hc).2 with h | h
        · exact hX1X c h
        · exact .inr (Nat.le_trans H.fr.size h)
    · have key:∀ k,k<K.length→Dj (Y 0) (Z k):=fun k hk c hc hc'=>by
        rcases((g1 k _ (List.getElem?_eq_getElem hk)).2.2 c hc').2 with h | h
        · exact hnot c (.inr hc) h
        · have:=(h5 c hc).1
          omega
      cases i with
      | zero=>
        cases j with
        | zero=>exact absurd rfl hij
        | succ j=>exact key j (by simpa using hj)
      | succ i=>
        cases j with
        | zero=>exact(key i (by simpa using hi)).symm
        | succ j=>exact g2 i j (by simpa using hi) (by simpa using hj) (by omega)
  · obtain⟨Z,g1,g2⟩:=S.ex
    have hX1X:∀ c,c∈(List.range L.length).flatMap (fun i=>Y (i+1))→c∈X∨w0.heap.size≤c:=fun c hc=>by
      obtain⟨i,hi,hci⟩:=(hX1 c).1 hc;exact(own i hi c hci).2
    have key:∀ k,k<(Go.Proofs.YtlommebgedmjdaaGreatDoor.ro (fun c=>N c∨c∈Y 0) (V:=V) v x::K).length→Dj (Y 0) (Z k):=fun k hk c hc hc'=>by
      rcases((g1 k _ (List.getElem?_eq_getElem hk)).2.2 c hc').2 with h | h
      · exact hnot c (.inr hc) h
      · have:=(h5 c hc).1
        omega
    have g0:=g1 0 _ rfl
    have hlen:(Go.Proofs.YtlommebgedmjdaaGreatDoor.ro N (V:=V) v x::K).length=(Go.Proofs.YtlommebgedmjdaaGreatDoor.ro (fun c=>N c∨c∈Y 0) (V:=V) v x::K).length:=by simp
    refine⟨⟨S.fr.os.trans H.fr.os,S.fr.tape.trans H.fr.tape,S.fr.output.trans H.fr.output,Nat.le_trans H.fr.size S.fr.size,fun k hk hn=>?_⟩,H.nb,fun i=>match i with | 0=>Z 0++Y 0 | i+1=>Z (i+1),fun i B hi=>?_,fun i j hi hj hij=>?_⟩
    · rw[S.fr.block k (Nat.lt_of_lt_of_le hk H.fr.size) (fun hm=>by rcases hX1X k hm with h | h;exact hn h;omega),H.fr.block k hk hn]
    · cases i with
      | zero=>
        simp at hi
        subst hi;obtain⟨⟨bs,e1,e2⟩,_,e3⟩:=g0;refine⟨⟨bs,e1,fun c hc=>?_⟩,fun c hc=>hc,fun c hc=>?_⟩
        · rcases e2 c hc with h | h | h
          · exact .inl (List.mem_append_left _ h)
          · exact .inr h
          · exact .inl (List.mem_append_right _ h)
        · rcases List.mem_append.1 hc with hc | hc
          · refine⟨(e3 c hc).1,?_⟩
            rcases(e3 c hc).2 with h | h
            · exact hX1X c h
            · exact .inr (Nat.le_trans H.fr.size h)
          · exact⟨Nat.lt_of_lt_of_le (h5 c hc).1 S.fr.size,(h5 c hc).2⟩
      | succ i=>
        have hi':K[i]?=some B:=by simpa using hi
        obtain⟨g3,g4,g5⟩:=g1 (i+1) B (by simpa using hi');refine⟨g3,hN B (List.mem_of_getElem? hi'),fun c hc=>⟨(g5 c hc).1,?_⟩⟩
        rcases(g5 c hc).2 with h | h
        · exact hX1X c h
        · exact .inr (Nat.le_trans H.fr.size h)
    · rw[hlen] at hi hj
      cases i with
      | zero=>
        cases j with
        | zero=>exact absurd rfl hij
        | succ j=>exact Dj.app' (g2 0 (j+1) hi hj (by omega)) (key (j+1) hj)
      | succ i=>
        cases j with
        | zero=>exact(Dj.app' (g2 0 (i+1) hj hi (by omega)) (key (i+1) hi)).symm
        | succ j=>exact g2 (i+1) (j+1) hi hj hij
theorem Sep.lend {K:List As} (H:Sep X N w0 w (K++L)):∃ (X1:List Nat),Sep X1 N w w K ∧
    ∀ {w':World} {K':List As},Sep X1 N w w' K'→Sep X N w0 w' (K'++L):=by
  obtain⟨Y,h1,h2⟩:=H.ex
  have hX1:∀ c,c∈(List.range K.length).flatMap Y↔∃ i,i<K.length∧c∈Y i:=fun c=>by simp
  have hK:∀ i A,K[i]?=some A→(K++L)[i]?=some A:=fun i A h=>by rw[List.getElem?_append_left (List.getElem?_eq_some_iff.1 h).1];exact h
  have hL:∀ (i:Nat) A,L[i]?=some A→(K++L)[K.length+i]?=some A:=fun i A h=>by rw[List.getElem?_append_right (by omega)];simpa using h
  have own:∀ i,i<K.length→∀ c∈Y i,c<w.heap.size∧(c∈X∨w0.heap.size≤c):=fun i hi c hc=>(h1 i K[i] (hK i _ (List.getElem?_eq_getElem hi))).2.2 c hc;refine⟨(List.range K.length).flatMap Y,⟨Only.refl _ _,fun c hc=>⟨Nat.lt_of_lt_of_le (H.nb c hc).1 H.fr.size,fun hm=>?_⟩,Y,fun i A hi=>?_,fun i j hi hj hij=>h2 i j (by rw[List.length_append];omega) (by rw[List.length_append];omega) hij⟩,fun {w' K'} S=>?_⟩
  · obtain⟨i,hi,hci⟩:=(hX1 c).1 hm
    exact Sep.own (i:=0) (own i hi c hci).2 H hc
  · have hlt:=(List.getElem?_eq_some_iff.1 hi).1
    obtain⟨h6,h7,h8⟩:=h1 i A (hK i A hi);exact⟨h6,h7,fun c hc=>⟨(h8 c hc).1,.inl ((hX1 c).2 ⟨i,hlt,hc⟩)⟩⟩
  · obtain⟨Z,g1,g2⟩:=S.ex
    have hX1X:∀ c,c∈(List.range K.length).flatMap Y→c∈X∨w0.heap.size≤c:=fun c hc=>by
      obtain⟨i,hi,hci⟩:=(hX1 c).1 hc;exact(own i hi c hci).2
    have old:∀ k,k<L.length→∀ c∈Y (K.length+k),c<w.heap.size∧c ∉ (List.range K.length).flatMap Y:=fun k hk c hc=>⟨((h1 _ _ (hL k _ (List.getElem?_eq_getElem hk))).2.2 c hc).1,fun hm=>by
      obtain⟨i,hi,hci⟩:=(hX1 c).1 hm
      exact h2 i (K.length+k) (by rw[List.length_append];omega) (by rw[List.length_append];omega) (by omega) c hci hc⟩
    have hZ:∀ i,i<K'.length→∀ c∈Z i,c<w'.heap.size∧(c∈(List.range K.length).flatMap Y∨w.heap.size≤c):=fun i hi c hc=>(g1 i _ (List.getElem?_eq_getElem hi)).2.2 c hc;refine⟨⟨S.fr.os.trans H.fr.os,S.fr.tape.trans H.fr.tape,S.fr.output.trans H.fr.output,Nat.le_trans H.fr.size S.fr.size,fun k hk hn=>?_⟩,H.nb,fun i=>if i<K'.length then Z i else Y (K.length+(i - K'.length)),fun i A hi=>?_,fun i j hi hj hij=>?_⟩
    · rw[S.fr.block k (Nat.lt_of_lt_of_le hk H.fr.size) (fun hm=>by rcases hX1X k hm with h | h;exact hn h;omega),H.fr.block k hk hn]
    · dsimp only
      by_cases hk:i<K'.length
      · rw[if_pos hk]
        rw[List.getElem?_append_left hk] at hi;obtain⟨g3,g4,g5⟩:=g1 i A hi;refine⟨g3,g4,fun c hc=>⟨(g5 c hc).1,?_⟩⟩
        rcases(g5 c hc).2 with h | h
        · exact hX1X c h
        · exact .inr (Nat.le_trans H.fr.size h)
      · rw[if_neg hk]
        rw[List.getElem?_append_right (by omega)] at hi;have hlt:=(List.getElem?_eq_some_iff.1 hi).1;obtain⟨h6,h7,h8⟩:=h1 _ A (hL _ A hi);exact⟨A.st h6 (fun c hc=>S.fr.block c (h8 c hc).1 (old _ hlt c hc).2) (fun c hc=>S.sm.blk c (h7 c hc)) S.fr.size,h7,fun c hc=>⟨Nat.lt_of_lt_of_le (h8 c hc).1 S.fr.size,(h8 c hc).2⟩⟩
    · rw[List.length_append] at hi hj
      have key:∀ a b,a<K'.length→b<L.length→Dj (Z a) (Y (K.length+b)):=fun a b ha hb c hc hc'=>by
        have h9:=old b hb c hc'
        rcases(hZ a ha c hc).2 with h | h
        · exact h9.2 h
        · omega
      dsimp only
      by_cases hik:i<K'.length
      · by_cases hjk:j<K'.length
        · rw[if_pos hik,if_pos hjk];exact g2 i j hik hjk hij
        · rw[if_pos hik,if_neg hjk];exact key _ _ hik (by omega)
      · by_cases hjk:j<K'.length
        · rw[if_neg hik,if_pos hjk];exact(key _ _ hjk (by omega)).symm
        · rw[if_neg hik,if_neg hjk];exact h2 _ _ (by rw[List.length_append];omega) (by rw[List.length_append];omega) (by omega)
end
end Go.Proofs.YtlommebgedmjdaaGreatDoor
