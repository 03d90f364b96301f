import Derived.Test.YtfmnjkpddljdcaaGreatDoorU
import Derived.Test.YtfmnjkpddljdcaaGreatDoorQ
namespace Go.Proofs.YtfmnjkpddljdcaaGreatDoor
set_option linter.unusedVariables false
set_option linter.unusedSimpArgs false
open Go.RowKit
def RP {α:Type} (sz:Nat) (R:ER α):ER α:=fun w f x bs=>∃ p,f 0=some p∧Pt sz R w p x bs
instance {α:Type} {sz:Nat} {R:ER α} [h:FrC sz R]:FrC 1 (RP sz R):=⟨fun w w' f g x bs ⟨p,h0,hp⟩ hs hg=>⟨p,(hg 0 (by omega)).trans h0,VF.same hp hs⟩,fun w f x bs h j hj=>by
  obtain rfl:j=0:=by omega
  obtain⟨p,h0,b,o,bi,rfl,_⟩:=h
  exact⟨_,h0,rfl⟩⟩
theorem Pt.one' {α:Type} {sz:Nat} {R:ER α} {w:World} {v:Value} {x:α} {bs:List Nat} (h:Pt sz R w v x bs):v.oneCell'=true:=by
  obtain⟨b,o,bi,rfl,_⟩:=h
  rfl
structure solver where
  t:Template
  vars:Int
  due:List (List Atom)
def aU:ER solver:=fun w f x bs=>∃ v1 v3:Value,∃ b1 b3:List Nat,f 0=some (.int .i64 x.t.size)∧xS x.t.size∧f 1=some v1∧Sl 2 vG w v1 x.t.rels b1∧f 2=some (.int .i64 x.vars)∧xS x.vars∧f 3=some v3∧Sl 1 (vS 2 kU) w v3 x.due b3∧bs=b1++b3
theorem aU.fr:Fr 4 aU:=by
  intro w w' f g x bs h hs hg;obtain⟨v1,v3,b1,b3,h0,k0,h1,k1,h2,k2,h3,k3,rfl⟩:=h;exact⟨v1,v3,_,_,(hg 0 (by omega)).trans h0,k0,(hg 1 (by omega)).trans h1,k1.same vG.fr (fun c hc=>hs c (by simp [hc])),(hg 2 (by omega)).trans h2,k2,(hg 3 (by omega)).trans h3,k3.same (vS.fr kU.fr) (fun c hc=>hs c (by simp [hc])),rfl⟩
instance:FrC 4 aU:=⟨aU.fr,fun w f x bs h=>by
  obtain⟨v1,v3,b1,b3,h0,k0,h1,k1,h2,k2,h3,k3,hbs⟩:=h
  exact(dJ (dJ (dJ (dJ sG h0 rfl) h1 k1.one) h2 rfl) h3 k3.one)⟩
theorem aU.f0 {w:World} {y:solver}:∀ f bi,aU w f y bi→∃ bj,xL w (fun j=>f (0+j)) y.t bj∧∀ c∈bj,c∈bi:=fun f bi h=>by
  obtain⟨v1,v3,b1,b3,h0,k0,h1,k1,h2,k2,h3,k3,hbs⟩:=h;exact⟨b1,⟨v1,b1,by simpa using h0,k0,by simpa using h1,k1,rfl⟩,fun c hc=>by rw[hbs];simp [hc]⟩
theorem aU.f1 {w:World} {y:solver}:∀ f bi,aU w f y bi→∃ bj,xM w (fun j=>f (2+j)) y.vars bj∧∀ c∈bj,c∈bi:=fun f bi h=>by
  obtain⟨v1,v3,b1,b3,h0,k0,h1,k1,h2,k2,h3,k3,hbs⟩:=h;exact⟨[],⟨by simpa using h2,k2,rfl⟩,fun c hc=>nomatch hc⟩
theorem aU.f2 {w:World} {y:solver}:∀ f bi,aU w f y bi→∃ bj,(vS 1 (vS 2 kU)) w (fun j=>f (3+j)) y.due bj∧∀ c∈bj,c∈bi:=fun f bi h=>by
  obtain⟨v1,v3,b1,b3,h0,k0,h1,k1,h2,k2,h3,k3,hbs⟩:=h;exact⟨b3,⟨v3,by simpa using h3,k3⟩,fun c hc=>by rw[hbs];simp [hc]⟩
theorem aU.mk2 {w:World} {f0:Int} {f1:List Rel} {f2:Int} {f3:List (List Atom)} {v1:Value} {b1:List Nat} {v3:Value} {b3:List Nat} (h0:xS f0) (h1:Rd (Sl 2 vG) w v1 f1 b1) (h2:xS f2) (h3:Rd (Sl 1 (vS 2 kU)) w v3 f3 b3):Rd (aY 4 aU) w (.agg #[.int .i64 f0,v1,.int .i64 f2,v3]) (solver.mk (Template.mk f0 f1) f2 f3) (b1++b3):=
  ⟨⟨[.int .i64 f0,v1,.int .i64 f2,v3],rfl,rfl,_,_,_,_,rfl,h0,rfl,h1.r,rfl,h2,rfl,h3.r,rfl⟩,(h1.m).append h3.m⟩
theorem aU.blk {w:World} {T:TypeId} {b:Nat} {f0:Int} {f1:List Rel} {f2:Int} {f3:List (List Atom)} {v1:Value} {b1:List Nat} {v3:Value} {b3:List Nat} (K:gM w b #[.int .i64 f0,v1,.int .i64 f2,v3] T) (h0:xS f0) (h1:Rd (Sl 2 vG) w v1 f1 b1) (h2:xS f2) (h3:Rd (Sl 1 (vS 2 kU)) w v3 f3 b3):Rd (Pt 4 aU) w (.pointer (some ⟨b,0,none⟩)) (solver.mk (Template.mk f0 f1) f2 f3) (b::(b1++b3)):=by
  have hm:kD (b1++b3) w:=(h1.m).append h3.m;refine⟨⟨b,0,_,rfl,rfl,_,_,_,_,(K.cell (0+0)).trans rfl,h0,(K.cell (0+1)).trans rfl,h1.r,(K.cell (0+2)).trans rfl,h2,(K.cell (0+3)).trans rfl,h3.r,rfl⟩,fun c hc=>?_⟩
  rcases List.mem_cons.1 hc with rfl | hc
  · exact K.lt
  · exact hm c hc
structure l05Find where
  t:Template
  x:Instance
  most:Int
  list:List (List Int)
  n:Int
def eI:ER l05Find:=fun w f x bs=>∃ v0 v1 v3:Value,∃ b0 b1 b3:List Nat,f 0=some v0∧Pt 2 xL w v0 x.t b0∧f 1=some v1∧Pt 2 xO w v1 x.x b1∧f 2=some (.int .i64 x.most)∧xS x.most∧f 3=some v3∧Sl 1 eG w v3 x.list b3∧f 4=some (.int .i64 x.n)∧xS x.n∧bs=b0++b1++b3
theorem eI.fr:Fr 5 eI:=by
  intro w w' f g x bs h hs hg;obtain⟨v0,v1,v3,b0,b1,b3,h0,k0,h1,k1,h2,k2,h3,k3,h4,k4,rfl⟩:=h;exact⟨v0,v1,v3,_,_,_,(hg 0 (by omega)).trans h0,VF.same k0 (fun c hc=>hs c (by simp [hc])),(hg 1 (by omega)).trans h1,VF.same k1 (fun c hc=>hs c (by simp [hc])),(hg 2 (by omega)).trans h2,k2,(hg 3 (by omega)).trans h3,k3.same eG.fr (fun c hc=>hs c (by simp [hc])),(hg 4 (by omega)).trans h4,k4,rfl⟩
instance:FrC 5 eI:=⟨eI.fr,fun w f x bs h=>by
  obtain⟨v0,v1,v3,b0,b1,b3,h0,k0,h1,k1,h2,k2,h3,k3,h4,k4,hbs⟩:=h
  exact(dJ (dJ (dJ (dJ (dJ sG h0 k0.one') h1 k1.one') h2 rfl) h3 k3.one) h4 rfl)⟩
theorem eI.f0 {w:World} {y:l05Find}:∀ f bi,eI w f y bi→∃ bj,(RP 2 xL) w (fun j=>f (0+j)) y.t bj∧∀ c∈bj,c∈bi:=fun f bi h=>by
  obtain⟨v0,v1,v3,b0,b1,b3,h0,k0,h1,k1,h2,k2,h3,k3,h4,k4,hbs⟩:=h;exact⟨b0,⟨v0,by simpa using h0,k0⟩,fun c hc=>by rw[hbs];simp [hc]⟩
theorem eI.mk2 {w:World} {f0:Template} {f1:Instance} {f2:Int} {f3:List (List Int)} {f4:Int} {v0:Value} {b0:List Nat} {v1:Value} {b1:List Nat} {v3:Value} {b3:List Nat} (h0:Rd (Pt 2 xL) w v0 f0 b0) (h1:Rd (Pt 2 xO) w v1 f1 b1) (h2:xS f2) (h3:Rd (Sl 1 eG) w v3 f3 b3) (h4:xS f4):Rd (aY 5 eI) w (.agg #[v0,v1,.int .i64 f2,v3,.int .i64 f4]) (l05Find.mk f0 f1 f2 f3 f4) (b0++b1++b3):=
  ⟨⟨[v0,v1,.int .i64 f2,v3,.int .i64 f4],rfl,rfl,_,_,_,_,_,_,rfl,h0.r,rfl,h1.r,rfl,h2,rfl,h3.r,rfl,h4,rfl⟩,((h0.m).append h1.m).append h3.m⟩
theorem eI.blk {w:World} {T:TypeId} {b:Nat} {f0:Template} {f1:Instance} {f2:Int} {f3:List (List Int)} {f4:Int} {v0:Value} {b0:List Nat} {v1:Value} {b1:List Nat} {v3:Value} {b3:List Nat} (K:gM w b #[v0,v1,.int .i64 f2,v3,.int .i64 f4] T) (h0:Rd (Pt 2 xL) w v0 f0 b0) (h1:Rd (Pt 2 xO) w v1 f1 b1) (h2:xS f2) (h3:Rd (Sl 1 eG) w v3 f3 b3) (h4:xS f4):Rd (Pt 5 eI) w (.pointer (some ⟨b,0,none⟩)) (l05Find.mk f0 f1 f2 f3 f4) (b::(b0++b1++b3)):=by
  have hm:kD (b0++b1++b3) w:=((h0.m).append h1.m).append h3.m;refine⟨⟨b,0,_,rfl,rfl,_,_,_,_,_,_,(K.cell (0+0)).trans rfl,h0.r,(K.cell (0+1)).trans rfl,h1.r,(K.cell (0+2)).trans rfl,h2,(K.cell (0+3)).trans rfl,h3.r,(K.cell (0+4)).trans rfl,h4,rfl⟩,fun c hc=>?_⟩
  rcases List.mem_cons.1 hc with rfl | hc
  · exact K.lt
  · exact hm c hc
structure told where
  left:List Int
  var:Int
def nX:ER told:=fun w f x bs=>∃ v0:Value,∃ b0:List Nat,f 0=some v0∧Sl 1 xM w v0 x.left b0∧f 1=some (.int .i64 x.var)∧xS x.var∧bs=b0
theorem nX.fr:Fr 2 nX:=by
  intro w w' f g x bs h hs hg;obtain⟨v0,b0,h0,k0,h1,k1,rfl⟩:=h;exact⟨v0,_,(hg 0 (by omega)).trans h0,k0.same xM.fr (fun c hc=>hs c (by simp [hc])),(hg 1 (by omega)).trans h1,k1,rfl⟩
instance:FrC 2 nX:=⟨nX.fr,fun w f x bs h=>by
  obtain⟨v0,b0,h0,k0,h1,k1,hbs⟩:=h
  exact(dJ (dJ sG h0 k0.one) h1 rfl)⟩
theorem nX.f0 {w:World} {y:told}:∀ f bi,nX w f y bi→∃ bj,(vS 1 xM) w (fun j=>f (0+j)) y.left bj∧∀ c∈bj,c∈bi:=fun f bi h=>by
  obtain⟨v0,b0,h0,k0,h1,k1,hbs⟩:=h;exact⟨b0,⟨v0,by simpa using h0,k0⟩,fun c hc=>by rw[hbs];simp [hc]⟩
theorem nX.mk2 {w:World} {f0:List Int} {f1:Int} {v0:Value} {b0:List Nat} (h0:Rd (Sl 1 xM) w v0 f0 b0) (h1:xS f1):Rd (aY 2 nX) w (.agg #[v0,.int .i64 f1]) (told.mk f0 f1) (b0):=
  ⟨⟨[v0,.int .i64 f1],rfl,rfl,_,_,rfl,h0.r,rfl,h1,rfl⟩,h0.m⟩
theorem nX.blk {w:World} {T:TypeId} {b:Nat} {f0:List Int} {f1:Int} {v0:Value} {b0:List Nat} (K:gM w b #[v0,.int .i64 f1] T) (h0:Rd (Sl 1 xM) w v0 f0 b0) (h1:xS f1):Rd (Pt 2 nX) w (.pointer (some ⟨b,0,none⟩)) (told.mk f0 f1) (b::(b0)):=by
  have hm:kD (b0) w:=h0.m;refine⟨⟨b,0,_,rfl,rfl,_,_,(K.cell (0+0)).trans rfl,h0.r,(K.cell (0+1)).trans rfl,h1,rfl⟩,fun c hc=>?_⟩
  rcases List.mem_cons.1 hc with rfl | hc
  · exact K.lt
  · exact hm c hc
structure l08Level where
  domains:List (List Int)
  chosen:Literal
def vM:ER l08Level:=fun w f x bs=>∃ v0:Value,∃ b0:List Nat,f 0=some v0∧Sl 1 eG w v0 x.domains b0∧f 1=some (.int .i64 x.chosen.var)∧xS x.chosen.var∧f 2=some (.int .i64 x.chosen.value)∧xS x.chosen.value∧bs=b0
theorem vM.fr:Fr 3 vM:=by
  intro w w' f g x bs h hs hg;obtain⟨v0,b0,h0,k0,h1,k1,h2,k2,rfl⟩:=h;exact⟨v0,_,(hg 0 (by omega)).trans h0,k0.same eG.fr (fun c hc=>hs c (by simp [hc])),(hg 1 (by omega)).trans h1,k1,(hg 2 (by omega)).trans h2,k2,rfl⟩
instance:FrC 3 vM:=⟨vM.fr,fun w f x bs h=>by
  obtain⟨v0,b0,h0,k0,h1,k1,h2,k2,hbs⟩:=h
  exact(dJ (dJ (dJ sG h0 k0.one) h1 rfl) h2 rfl)⟩
theorem vM.f0 {w:World} {y:l08Level}:∀ f bi,vM w f y bi→∃ bj,(vS 1 eG) w (fun j=>f (0+j)) y.domains bj∧∀ c∈bj,c∈bi:=fun f bi h=>by
  obtain⟨v0,b0,h0,k0,h1,k1,h2,k2,hbs⟩:=h;exact⟨b0,⟨v0,by simpa using h0,k0⟩,fun c hc=>by rw[hbs];simp [hc]⟩
theorem vM.mk2 {w:World} {f0:List (List Int)} {f1:Int} {f2:Int} {v0:Value} {b0:List Nat} (h0:Rd (Sl 1 eG) w v0 f0 b0) (h1:xS f1) (h2:xS f2):Rd (aY 3 vM) w (.agg #[v0,.int .i64 f1,.int .i64 f2]) (l08Level.mk f0 (Literal.mk f1 f2)) (b0):=
  ⟨⟨[v0,.int .i64 f1,.int .i64 f2],rfl,rfl,_,_,rfl,h0.r,rfl,h1,rfl,h2,rfl⟩,h0.m⟩
theorem vM.blk {w:World} {T:TypeId} {b:Nat} {f0:List (List Int)} {f1:Int} {f2:Int} {v0:Value} {b0:List Nat} (K:gM w b #[v0,.int .i64 f1,.int .i64 f2] T) (h0:Rd (Sl 1 eG) w v0 f0 b0) (h1:xS f1) (h2:xS f2):Rd (Pt 3 vM) w (.pointer (some ⟨b,0,none⟩)) (l08Level.mk f0 (Literal.mk f1 f2)) (b::(b0)):=by
  have hm:kD (b0) w:=h0.m;refine⟨⟨b,0,_,rfl,rfl,_,_,(K.cell (0+0)).trans rfl,h0.r,(K.cell (0+1)).trans rfl,h1,(K.cell (0+2)).trans rfl,h2,rfl⟩,fun c hc=>?_⟩
  rcases List.mem_cons.1 hc with rfl | hc
  · exact K.lt
  · exact hm c hc
structure l01Set where
  size:Int
  arity:Int
  has:List Bool
def fX:ER l01Set:=fun w f x bs=>∃ v2:Value,∃ b2:List Nat,f 0=some (.int .i64 x.size)∧xS x.size∧f 1=some (.int .i64 x.arity)∧xS x.arity∧f 2=some v2∧Sl 1 wM w v2 x.has b2∧bs=b2
theorem fX.fr:Fr 3 fX:=by
  intro w w' f g x bs h hs hg;obtain⟨v2,b2,h0,k0,h1,k1,h2,k2,rfl⟩:=h;exact⟨v2,_,(hg 0 (by omega)).trans h0,k0,(hg 1 (by omega)).trans h1,k1,(hg 2 (by omega)).trans h2,k2.same (FrC.fr (sz:=1) (R:=wM)) (fun c hc=>hs c (by simp [hc])),rfl⟩
instance:FrC 3 fX:=⟨fX.fr,fun w f x bs h=>by
  obtain⟨v2,b2,h0,k0,h1,k1,h2,k2,hbs⟩:=h
  exact(dJ (dJ (dJ sG h0 rfl) h1 rfl) h2 k2.one)⟩
theorem fX.f0 {w:World} {y:l01Set}:∀ f bi,fX w f y bi→∃ bj,xM w (fun j=>f (0+j)) y.size bj∧∀ c∈bj,c∈bi:=fun f bi h=>by
  obtain⟨v2,b2,h0,k0,h1,k1,h2,k2,hbs⟩:=h;exact⟨[],⟨by simpa using h0,k0,rfl⟩,fun c hc=>nomatch hc⟩
theorem fX.mk2 {w:World} {f0:Int} {f1:Int} {f2:List Bool} {v2:Value} {b2:List Nat} (h0:xS f0) (h1:xS f1) (h2:Rd (Sl 1 wM) w v2 f2 b2):Rd (aY 3 fX) w (.agg #[.int .i64 f0,.int .i64 f1,v2]) (l01Set.mk f0 f1 f2) (b2):=
  ⟨⟨[.int .i64 f0,.int .i64 f1,v2],rfl,rfl,_,_,rfl,h0,rfl,h1,rfl,h2.r,rfl⟩,h2.m⟩
theorem fX.blk {w:World} {T:TypeId} {b:Nat} {f0:Int} {f1:Int} {f2:List Bool} {v2:Value} {b2:List Nat} (K:gM w b #[.int .i64 f0,.int .i64 f1,v2] T) (h0:xS f0) (h1:xS f1) (h2:Rd (Sl 1 wM) w v2 f2 b2):Rd (Pt 3 fX) w (.pointer (some ⟨b,0,none⟩)) (l01Set.mk f0 f1 f2) (b::(b2)):=by
  have hm:kD (b2) w:=h2.m;refine⟨⟨b,0,_,rfl,rfl,_,_,(K.cell (0+0)).trans rfl,h0,(K.cell (0+1)).trans rfl,h1,(K.cell (0+2)).trans rfl,h2.r,rfl⟩,fun c hc=>?_⟩
  rcases List.mem_cons.1 hc with rfl | hc
  · exact K.lt
  · exact hm c hc
section
variable {P:Program} {ops:Array Oper} {Q:Exit→Act→World→Prop} {C:World→Prop} {K:Act→Prop} {a:Act} {w:World} {n:Nat} {L:List (Nat×Value)} {rest:List Oper} {d:Nat} {dd:Option Tmp} {ty:TypeId} {pos:String} {af:Array Edge} {g:Option (Nat×Bool)}
end
theorem xTx {α:Type} {sz:Nat} {R:ER α} {w:World} {T:TypeId} {b:Nat} {p:Value} {x:α} {bs:List Nat} (K:gM w b #[p] T) (h:Rd (Pt sz R) w p x bs):Rd (Pt 1 (RP sz R)) w (.pointer (some ⟨b,0,none⟩)) x (b::bs):=
  ⟨⟨b,0,_,rfl,rfl,p,(K.cell (0+0)).trans rfl,h.r⟩,fun c hc=>by
    rcases List.mem_cons.1 hc with rfl | hc
    · exact K.lt
    · exact h.m c hc⟩
end Go.Proofs.YtfmnjkpddljdcaaGreatDoor
