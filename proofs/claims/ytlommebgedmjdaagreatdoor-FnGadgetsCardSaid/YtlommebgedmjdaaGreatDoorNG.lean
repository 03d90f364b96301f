import Derived.Test.YtlommebgedmjdaaGreatDoorNL
namespace Go.Proofs.YtlommebgedmjdaaGreatDoor
set_option linter.unusedVariables false
set_option linter.unusedSimpArgs false
open Go.RowKit
def RPO (v:Value) (sz i f:Nat) (p:Value):Prop:=∃ g m c,v= .slice (some ⟨g,0,none⟩) m c∧p= .pointer (some ⟨g,i*sz+f,none⟩)
theorem RPt.o {v p:Value} {sz i:Nat} (h:RPt v sz i p):RPO v sz i 0 p:=h
section
variable {P:Program} {ops:Array Oper} {Q:Exit→Act→World→Prop} {a:Act} {w w0 w1:World} {n:Nat} {L:List (Nat×Value)} {rest:List Oper} {d:Nat} {ty:TypeId} {pos:String} {af:Array Edge} {g:Option (Nat×Bool)} {M N N1:Nat→Prop} {X:List Nat} {D:List As} {A:As}
end
section
variable {P:Program} {ops:Array Oper} {Q:Exit→Act→World→Prop} {a:Act} {w w0 w1:World} {n:Nat} {L:List (Nat×Value)} {rest:List Oper} {d:Nat} {dd:Option Tmp} {ty:TypeId} {pos:String} {af:Array Edge} {g:Option (Nat×Bool)} {M N N1:Nat→Prop} {X:List Nat} {D:List As} {A:As}
theorem oAy {x y:Operand} {ts:Array TypeId} {i j:Int} (F:Sk a n L) (e:ev L x=some (.int .i64 i)) (e':ev L y=some (.int .i64 j)) {w':World} :
    (execOp a.eval ⟨dd,.call ⟨.builtin .min,#[x,y],ts⟩,ty,pos,af,g⟩).run P w'= .ok (.value (.int .i64 (if j<i then j else i))) w':=by
  rw[BigFrame.execOp_builtin,BigFrame.builtin_min];simp only[List.map_toArray,List.map_cons,List.map_nil,F.ev e,F.ev e']
  simp [Builtin.min_,Builtin.min2]
  try (split<;>rfl)
theorem oBx {i j:Int} (h:xH i) (k:xH j):xH (if j<i then j else i):=by split<;>assumption
end
section
variable {X:List Nat} {N M:Nat→Prop} {w0 w:World} {L:List As} {A B C:As}
theorem Sep.up {α:Type} {sz:Nat} {R:ER α} [hR:FrC sz R] {E:TypeId} {v:Value} {l:List α} (H:Sep X N w0 w (rw M sz R E v l::L)) (h:∀ c,M c→N c):Sep X N w0 w (rw N sz R E v l::L):=by
  obtain⟨Y,⟨rb,ib,r1,r2,r3⟩,hN,hY,tr⟩:=H.hd;exact tr (Z:=[]) (fun _ h=>nomatch h) (Only.refl _ _) (B:=rw N sz R E v l) (Y1:=Y) ⟨rb,ib,r1,r2,fun c hc=>(r3 c hc).imp id (h c)⟩ n1 (fun c hc=>⟨.inl hc,(hY c hc).1⟩)
end
def Ab (f:(Nat→Prop)→As):Prop:=(∀ N c,(f N).N c→N c)∧∀ {M N:Nat→Prop} {w:World} {Y Z:List Nat},(∀ c,M c→N c∨c∈Y)→(f M).P w Z→(f N).P w (Z++Y)
theorem Ab.rw {α:Type} {sz:Nat} {R:ER α} [hR:FrC sz R] {E:TypeId} {v:Value} {l:List α}:Ab (fun N=>Go.Proofs.YtlommebgedmjdaaGreatDoor.rw N sz R E v l):=
  ⟨fun _ _ h=>h,fun h ⟨rb,ib,r1,r2,r3⟩=>⟨rb,ib,r1,fun c hc=>List.mem_append_left _ (r2 c hc),fun c hc=>(r3 c hc).elim (fun h=>.inl (List.mem_append_left _ h)) (fun g=>(h c g).elim .inr (fun g=>.inl (List.mem_append_right _ g)))⟩⟩
theorem Ab.ro {α:Type} {V:VR α} [hV:VF V] {v:Value} {x:α}:Ab (fun N=>Go.Proofs.YtlommebgedmjdaaGreatDoor.ro N (V:=V) v x):=
  ⟨fun _ _ h=>h,fun h ⟨bs,r1,r2⟩=>⟨bs,r1,fun c hc=>(r2 c hc).elim (fun h=>.inl (List.mem_append_left _ h)) (fun g=>(h c g).elim .inr (fun g=>.inl (List.mem_append_right _ g)))⟩⟩
theorem Sep.fza {X:List Nat} {N:Nat→Prop} {w0 w:World} {L:List As} {A:As} (H:Sep X N w0 w (A::L)):∃ (X1:List Nat) (N1:Nat→Prop),Rdg N1 w A∧Lf N w0 N1 w∧Sep X1 N1 w w L ∧
    ((∀ {w':World} {K:List As},Sep X1 N1 w w' K→(∀ B∈K,∀ c,B.N c→N c)→Sep X N w0 w' (A::K)) ∧
    (∀ {w':World} {K:List As} {α:Type} {V:VR α} [VF V] {v:Value} {x:α},Sep X1 N1 w w' (Go.Proofs.YtlommebgedmjdaaGreatDoor.ro N1 (V:=V) v x::K)→(∀ B∈K,∀ c,B.N c→N c)→Sep X N w0 w' (Go.Proofs.YtlommebgedmjdaaGreatDoor.ro N (V:=V) v x::K))∧(∀ c,N c→N1 c)) ∧
    (∀ {f:(Nat→Prop)→As},Ab f→∀ {w':World} {K:List As},Sep X1 N1 w w' (f N1::K)→(∀ B∈K,∀ c,B.N c→N c)→Sep X N w0 w' (f N::K)):=by
  obtain⟨Y,h1,h2⟩:=H.ex;obtain⟨h3,h4,h5⟩:=h1 0 A rfl
  have hX1:∀ c,c∈(List.range L.length).flatMap (fun i=>Y (i+1))↔∃ i,i<L.length∧c∈Y (i+1):=fun c=>by simp
  have own:∀ i,i<L.length→∀ c∈Y (i+1),c<w.heap.size∧(c∈X∨w0.heap.size≤c):=fun i hi c hc=>(h1 (i+1) L[i] (by simp [hi])).2.2 c hc
  have hnot:∀ c,(N c∨c∈Y 0)→c ∉ (List.range L.length).flatMap (fun i=>Y (i+1)):=fun c hc hm=>by
    obtain⟨i,hi,hci⟩:=(hX1 c).1 hm
    rcases hc with hc | hc
    · exact Sep.own (i:=0) (own i hi c hci).2 H hc
    · exact h2 0 (i+1) (by simp) (by simp [hi]) (by omega) c hc hci
  have hX1X:∀ c,c∈(List.range L.length).flatMap (fun i=>Y (i+1))→c∈X∨w0.heap.size≤c:=fun c hc=>by
    obtain⟨i,hi,hci⟩:=(hX1 c).1 hc;exact(own i hi c hci).2
  have ab:∀ {f:(Nat→Prop)→As},Ab f→∀ {w':World} {K:List As},Sep ((List.range L.length).flatMap (fun i=>Y (i+1))) (fun c=>N c∨c∈Y 0) w w' (f (fun c=>N c∨c∈Y 0)::K)→(∀ B∈K,∀ c,B.N c→N c)→Sep X N w0 w' (f N::K):=fun {f} hf {w' K} S hN=>by
    obtain⟨Z,g1,g2⟩:=S.ex
    have key:∀ k,k<(f (fun c=>N c∨c∈Y 0)::K).length→Dj (Y 0) (Z k):=fun k hk c hc hc'=>by
      rcases((g1 k _ (List.getElem?_eq_getElem hk)).2.2 c hc').2 with h | h
      · exact hnot c (.inr hc) h
      · have:=(h5 c hc).1
        omega
    have g0:=g1 0 _ rfl
    have hlen:(f N::K).length=(f (fun c=>N c∨c∈Y 0)::K).length:=by simp
    refine⟨⟨S.fr.os.trans H.fr.os,S.fr.tape.trans H.fr.tape,S.fr.output.trans H.fr.output,Nat.le_trans H.fr.size S.fr.size,fun k hk hn=>?_⟩,H.nb,fun i=>match i with | 0=>Z 0++Y 0 | i+1=>Z (i+1),fun i B hi=>?_,fun i j hi hj hij=>?_⟩
    · rw[S.fr.block k (Nat.lt_of_lt_of_le hk H.fr.size) (fun hm=>by rcases hX1X k hm with h | h;exact hn h;omega),H.fr.block k hk hn]
    · cases i with
      | zero=>
        simp at hi
        subst hi;refine⟨hf.2 (fun c h=>h) g0.1,fun c hc=>hf.1 _ c hc,fun c hc=>?_⟩
        rcases List.mem_append.1 hc with hc | hc
        · refine⟨(g0.2.2 c hc).1,?_⟩
          rcases(g0.2.2 c hc).2 with h | h
          · exact hX1X c h
          · exact .inr (Nat.le_trans H.fr.size h)
        · exact⟨Nat.lt_of_lt_of_le (h5 c hc).1 S.fr.size,(h5 c hc).2⟩
      | succ i=>
        have hi':K[i]?=some B:=by simpa using hi
        obtain⟨g3,g4,g5⟩:=g1 (i+1) B (by simpa using hi');refine⟨g3,hN B (List.mem_of_getElem? hi'),fun c hc=>⟨(g5 c hc).1,?_⟩⟩
        rcases(g5 c hc).2 with h | h
        · exact hX1X c h
        · exact .inr (Nat.le_trans H.fr.size h)
    · rw[hlen] at hi hj
      cases i with
      | zero=>
        cases j with
        | zero=>exact absurd rfl hij
        | succ j=>exact Dj.app' (g2 0 (j+1) hi hj (by omega)) (key (j+1) hj)
      | succ i=>
        cases j with
        | zero=>exact(Dj.app' (g2 0 (i+1) hj hi (by omega)) (key (i+1) hi)).symm
        | succ j=>exact g2 (i+1) (j+1) hi hj hij
  refine⟨(List.range L.length).flatMap (fun i=>Y (i+1)),fun c=>N c∨c∈Y 0,⟨Y 0,h3,fun c hc=>.inr hc,fun c hc=>.inl (h4 c hc)⟩,fun h=>(h.to H.sm).mono (fun c hc=>.inl hc),⟨Only.refl _ _,fun c hc=>⟨?_,hnot c hc⟩,fun i=>Y (i+1),fun i B hi=>?_,fun i j hi hj hij=>h2 (i+1) (j+1) (by simpa using hi) (by simpa using hj) (by omega)⟩,⟨fun {w' K} S hN=>?_,fun {w' K α V hV v x} S hN=>ab Ab.ro S hN,fun c hc=>.inl hc⟩,ab⟩
  · rcases hc with hc | hc
    · exact Nat.lt_of_lt_of_le (H.nb c hc).1 H.fr.size
    · exact(h5 c hc).1
  · have hlt:=(List.getElem?_eq_some_iff.1 hi).1
    obtain⟨h6,h7,h8⟩:=h1 (i+1) B (by simpa using hi);exact⟨h6,fun c hc=>.inl (h7 c hc),fun c hc=>⟨(h8 c hc).1,.inl ((hX1 c).2 ⟨i,hlt,hc⟩)⟩⟩
  · obtain⟨Z,g1,g2⟩:=S.ex
    refine⟨⟨S.fr.os.trans H.fr.os,S.fr.tape.trans H.fr.tape,S.fr.output.trans H.fr.output,Nat.le_trans H.fr.size S.fr.size,fun k hk hn=>?_⟩,H.nb,fun i=>match i with | 0=>Y 0 | i+1=>Z i,fun i B hi=>?_,fun i j hi hj hij=>?_⟩
    · rw[S.fr.block k (Nat.lt_of_lt_of_le hk H.fr.size) (fun hm=>by rcases hX1X k hm with h | h;exact hn h;omega),H.fr.block k hk hn]
    · cases i with
      | zero=>
        simp at hi
        subst hi;exact⟨A.st h3 (fun c hc=>S.sm.blk c (.inr hc)) (fun c hc=>S.sm.blk c (.inl (h4 c hc))) S.fr.size,h4,fun c hc=>⟨Nat.lt_of_lt_of_le (h5 c hc).1 S.fr.size,(h5 c hc).2⟩⟩
      | succ i=>
        have hi':K[i]?=some B:=by simpa using hi
        obtain⟨g3,g4,g5⟩:=g1 i B hi';refine⟨g3,hN B (List.mem_of_getElem? hi'),fun c hc=>⟨(g5 c hc).1,?_⟩⟩
        rcases(g5 c hc).2 with h | h
        · exact hX1X c h
        · exact .inr (Nat.le_trans H.fr.size h)
    · have key:∀ k,k<K.length→Dj (Y 0) (Z k):=fun k hk c hc hc'=>by
        rcases((g1 k _ (List.getElem?_eq_getElem hk)).2.2 c hc').2 with h | h
        · exact hnot c (.inr hc) h
        · have:=(h5 c hc).1
          omega
      cases i with
      | zero=>
        cases j with
        | zero=>exact absurd rfl hij
        | succ j=>exact key j (by simpa using hj)
      | succ i=>
        cases j with
        | zero=>exact(key i (by simpa using hi)).symm
        | succ j=>exact g2 i j (by simpa using hi) (by simpa using hj) (by omega)
end Go.Proofs.YtlommebgedmjdaaGreatDoor
