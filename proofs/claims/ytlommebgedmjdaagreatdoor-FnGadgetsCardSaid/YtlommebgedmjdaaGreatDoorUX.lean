import Derived.Test.YtlommebgedmjdaaGreatDoorU
import Derived.Test.YtlommebgedmjdaaGreatDoorQ
namespace Go.Proofs.YtlommebgedmjdaaGreatDoor
set_option linter.unusedVariables false
set_option linter.unusedSimpArgs false
open Go.RowKit
def RP {α:Type} (sz:Nat) (R:ER α):ER α:=fun w f x bs=>∃ p,f 0=some p∧Pt sz R w p x bs
instance {α:Type} {sz:Nat} {R:ER α} [h:FrC sz R]:FrC 1 (RP sz R):=⟨fun w w' f g x bs ⟨p,h0,hp⟩ hs hg=>⟨p,(hg 0 (by omega)).trans h0,VF.same hp hs⟩,fun w f x bs h j hj=>by
  obtain rfl:j=0:=by omega
  obtain⟨p,h0,b,o,bi,rfl,_⟩:=h
  exact⟨_,h0,rfl⟩⟩
theorem Pt.one' {α:Type} {sz:Nat} {R:ER α} {w:World} {v:Value} {x:α} {bs:List Nat} (h:Pt sz R w v x bs):v.oneCell'=true:=by
  obtain⟨b,o,bi,rfl,_⟩:=h
  rfl
structure solver where
  t:Template
  vars:Int
  due:List (List Atom)
def qZ:ER solver:=fun w f x bs=>∃ v1 v3:Value,∃ b1 b3:List Nat,f 0=some (.int .i64 x.t.size)∧xH x.t.size∧f 1=some v1∧Sl 2 oV w v1 x.t.rels b1∧f 2=some (.int .i64 x.vars)∧xH x.vars∧f 3=some v3∧Sl 1 (fG 2 xM) w v3 x.due b3∧bs=b1++b3
theorem qZ.fr:Fr 4 qZ:=by
  intro w w' f g x bs h hs hg;obtain⟨v1,v3,b1,b3,h0,k0,h1,k1,h2,k2,h3,k3,rfl⟩:=h;exact⟨v1,v3,_,_,(hg 0 (by omega)).trans h0,k0,(hg 1 (by omega)).trans h1,k1.same oV.fr (fun c hc=>hs c (by simp [hc])),(hg 2 (by omega)).trans h2,k2,(hg 3 (by omega)).trans h3,k3.same (fG.fr xM.fr) (fun c hc=>hs c (by simp [hc])),rfl⟩
instance:FrC 4 qZ:=⟨qZ.fr,fun w f x bs h=>by
  obtain⟨v1,v3,b1,b3,h0,k0,h1,k1,h2,k2,h3,k3,hbs⟩:=h
  exact(aS (aS (aS (aS sB h0 rfl) h1 k1.one) h2 rfl) h3 k3.one)⟩
theorem qZ.f0 {w:World} {y:solver}:∀ f bi,qZ w f y bi→∃ bj,xA w (fun j=>f (0+j)) y.t bj∧∀ c∈bj,c∈bi:=fun f bi h=>by
  obtain⟨v1,v3,b1,b3,h0,k0,h1,k1,h2,k2,h3,k3,hbs⟩:=h;exact⟨b1,⟨v1,b1,by simpa using h0,k0,by simpa using h1,k1,rfl⟩,fun c hc=>by rw[hbs];simp [hc]⟩
theorem qZ.f1 {w:World} {y:solver}:∀ f bi,qZ w f y bi→∃ bj,xG w (fun j=>f (2+j)) y.vars bj∧∀ c∈bj,c∈bi:=fun f bi h=>by
  obtain⟨v1,v3,b1,b3,h0,k0,h1,k1,h2,k2,h3,k3,hbs⟩:=h;exact⟨[],⟨by simpa using h2,k2,rfl⟩,fun c hc=>nomatch hc⟩
theorem qZ.f2 {w:World} {y:solver}:∀ f bi,qZ w f y bi→∃ bj,(fG 1 (fG 2 xM)) w (fun j=>f (3+j)) y.due bj∧∀ c∈bj,c∈bi:=fun f bi h=>by
  obtain⟨v1,v3,b1,b3,h0,k0,h1,k1,h2,k2,h3,k3,hbs⟩:=h;exact⟨b3,⟨v3,by simpa using h3,k3⟩,fun c hc=>by rw[hbs];simp [hc]⟩
theorem qZ.rd {w:World} {v:Value} {x:solver} {bs:List Nat} (h:Rd (qG 4 qZ) w v x bs):∃ v1 v3:Value,∃ b1 b3:List Nat,v= .agg #[.int .i64 x.t.size,v1,.int .i64 x.vars,v3]∧xH x.t.size∧Rd (Sl 2 oV) w v1 x.t.rels b1∧xH x.vars∧Rd (Sl 1 (fG 2 xM)) w v3 x.due b3∧bs=b1++b3:=by
  obtain⟨⟨cs,hl,rfl,v1,v3,b1,b3,h0,k0,h1,k1,h2,k2,h3,k3,hbs⟩,hm⟩:=h
  match cs,hl with
  | [c0,c1,c2,c3],_=>
    obtain rfl:=Option.some.inj h0;obtain rfl:=Option.some.inj h1;obtain rfl:=Option.some.inj h2;obtain rfl:=Option.some.inj h3;exact⟨_,_,_,_,rfl,k0,⟨k1,fun c hc=>hm c (by rw[hbs];simp [hc])⟩,k2,⟨k3,fun c hc=>hm c (by rw[hbs];simp [hc])⟩,hbs⟩
theorem qZ.mk2 {w:World} {f0:Int} {f1:List Rel} {f2:Int} {f3:List (List Atom)} {v1:Value} {b1:List Nat} {v3:Value} {b3:List Nat} (h0:xH f0) (h1:Rd (Sl 2 oV) w v1 f1 b1) (h2:xH f2) (h3:Rd (Sl 1 (fG 2 xM)) w v3 f3 b3):Rd (qG 4 qZ) w (.agg #[.int .i64 f0,v1,.int .i64 f2,v3]) (solver.mk (Template.mk f0 f1) f2 f3) (b1++b3):=
  ⟨⟨[.int .i64 f0,v1,.int .i64 f2,v3],rfl,rfl,_,_,_,_,rfl,h0,rfl,h1.r,rfl,h2,rfl,h3.r,rfl⟩,(h1.m).append h3.m⟩
theorem qZ.blk {w:World} {T:TypeId} {b:Nat} {f0:Int} {f1:List Rel} {f2:Int} {f3:List (List Atom)} {v1:Value} {b1:List Nat} {v3:Value} {b3:List Nat} (K:fI w b #[.int .i64 f0,v1,.int .i64 f2,v3] T) (h0:xH f0) (h1:Rd (Sl 2 oV) w v1 f1 b1) (h2:xH f2) (h3:Rd (Sl 1 (fG 2 xM)) w v3 f3 b3):Rd (Pt 4 qZ) w (.pointer (some ⟨b,0,none⟩)) (solver.mk (Template.mk f0 f1) f2 f3) (b::(b1++b3)):=by
  have hm:qM (b1++b3) w:=(h1.m).append h3.m;refine⟨⟨b,0,_,rfl,rfl,_,_,_,_,(K.cell (0+0)).trans rfl,h0,(K.cell (0+1)).trans rfl,h1.r,(K.cell (0+2)).trans rfl,h2,(K.cell (0+3)).trans rfl,h3.r,rfl⟩,fun c hc=>?_⟩
  rcases List.mem_cons.1 hc with rfl | hc
  · exact K.lt
  · exact hm c hc
structure l05Find where
  t:Template
  x:Instance
  most:Int
  list:List (List Int)
  n:Int
def vO:ER l05Find:=fun w f x bs=>∃ v0 v1 v3:Value,∃ b0 b1 b3:List Nat,f 0=some v0∧Pt 2 xA w v0 x.t b0∧f 1=some v1∧Pt 2 xB w v1 x.x b1∧f 2=some (.int .i64 x.most)∧xH x.most∧f 3=some v3∧Sl 1 dM w v3 x.list b3∧f 4=some (.int .i64 x.n)∧xH x.n∧bs=b0++b1++b3
theorem vO.fr:Fr 5 vO:=by
  intro w w' f g x bs h hs hg;obtain⟨v0,v1,v3,b0,b1,b3,h0,k0,h1,k1,h2,k2,h3,k3,h4,k4,rfl⟩:=h;exact⟨v0,v1,v3,_,_,_,(hg 0 (by omega)).trans h0,VF.same k0 (fun c hc=>hs c (by simp [hc])),(hg 1 (by omega)).trans h1,VF.same k1 (fun c hc=>hs c (by simp [hc])),(hg 2 (by omega)).trans h2,k2,(hg 3 (by omega)).trans h3,k3.same dM.fr (fun c hc=>hs c (by simp [hc])),(hg 4 (by omega)).trans h4,k4,rfl⟩
instance:FrC 5 vO:=⟨vO.fr,fun w f x bs h=>by
  obtain⟨v0,v1,v3,b0,b1,b3,h0,k0,h1,k1,h2,k2,h3,k3,h4,k4,hbs⟩:=h
  exact(aS (aS (aS (aS (aS sB h0 k0.one') h1 k1.one') h2 rfl) h3 k3.one) h4 rfl)⟩
theorem vO.f0 {w:World} {y:l05Find}:∀ f bi,vO w f y bi→∃ bj,(RP 2 xA) w (fun j=>f (0+j)) y.t bj∧∀ c∈bj,c∈bi:=fun f bi h=>by
  obtain⟨v0,v1,v3,b0,b1,b3,h0,k0,h1,k1,h2,k2,h3,k3,h4,k4,hbs⟩:=h;exact⟨b0,⟨v0,by simpa using h0,k0⟩,fun c hc=>by rw[hbs];simp [hc]⟩
theorem vO.f1 {w:World} {y:l05Find}:∀ f bi,vO w f y bi→∃ bj,(RP 2 xB) w (fun j=>f (1+j)) y.x bj∧∀ c∈bj,c∈bi:=fun f bi h=>by
  obtain⟨v0,v1,v3,b0,b1,b3,h0,k0,h1,k1,h2,k2,h3,k3,h4,k4,hbs⟩:=h;exact⟨b1,⟨v1,by simpa using h1,k1⟩,fun c hc=>by rw[hbs];simp [hc]⟩
theorem vO.rd {w:World} {v:Value} {x:l05Find} {bs:List Nat} (h:Rd (qG 5 vO) w v x bs):∃ v0 v1 v3:Value,∃ b0 b1 b3:List Nat,v= .agg #[v0,v1,.int .i64 x.most,v3,.int .i64 x.n]∧Rd (Pt 2 xA) w v0 x.t b0∧Rd (Pt 2 xB) w v1 x.x b1∧xH x.most∧Rd (Sl 1 dM) w v3 x.list b3∧xH x.n∧bs=b0++b1++b3:=by
  obtain⟨⟨cs,hl,rfl,v0,v1,v3,b0,b1,b3,h0,k0,h1,k1,h2,k2,h3,k3,h4,k4,hbs⟩,hm⟩:=h
  match cs,hl with
  | [c0,c1,c2,c3,c4],_=>
    obtain rfl:=Option.some.inj h0;obtain rfl:=Option.some.inj h1;obtain rfl:=Option.some.inj h2;obtain rfl:=Option.some.inj h3;obtain rfl:=Option.some.inj h4;exact⟨_,_,_,_,_,_,rfl,⟨k0,fun c hc=>hm c (by rw[hbs];simp [hc])⟩,⟨k1,fun c hc=>hm c (by rw[hbs];simp [hc])⟩,k2,⟨k3,fun c hc=>hm c (by rw[hbs];simp [hc])⟩,k4,hbs⟩
theorem vO.mk2 {w:World} {f0:Template} {f1:Instance} {f2:Int} {f3:List (List Int)} {f4:Int} {v0:Value} {b0:List Nat} {v1:Value} {b1:List Nat} {v3:Value} {b3:List Nat} (h0:Rd (Pt 2 xA) w v0 f0 b0) (h1:Rd (Pt 2 xB) w v1 f1 b1) (h2:xH f2) (h3:Rd (Sl 1 dM) w v3 f3 b3) (h4:xH f4):Rd (qG 5 vO) w (.agg #[v0,v1,.int .i64 f2,v3,.int .i64 f4]) (l05Find.mk f0 f1 f2 f3 f4) (b0++b1++b3):=
  ⟨⟨[v0,v1,.int .i64 f2,v3,.int .i64 f4],rfl,rfl,_,_,_,_,_,_,rfl,h0.r,rfl,h1.r,rfl,h2,rfl,h3.r,rfl,h4,rfl⟩,((h0.m).append h1.m).append h3.m⟩
theorem vO.blk {w:World} {T:TypeId} {b:Nat} {f0:Template} {f1:Instance} {f2:Int} {f3:List (List Int)} {f4:Int} {v0:Value} {b0:List Nat} {v1:Value} {b1:List Nat} {v3:Value} {b3:List Nat} (K:fI w b #[v0,v1,.int .i64 f2,v3,.int .i64 f4] T) (h0:Rd (Pt 2 xA) w v0 f0 b0) (h1:Rd (Pt 2 xB) w v1 f1 b1) (h2:xH f2) (h3:Rd (Sl 1 dM) w v3 f3 b3) (h4:xH f4):Rd (Pt 5 vO) w (.pointer (some ⟨b,0,none⟩)) (l05Find.mk f0 f1 f2 f3 f4) (b::(b0++b1++b3)):=by
  have hm:qM (b0++b1++b3) w:=((h0.m).append h1.m).append h3.m;refine⟨⟨b,0,_,rfl,rfl,_,_,_,_,_,_,(K.cell (0+0)).trans rfl,h0.r,(K.cell (0+1)).trans rfl,h1.r,(K.cell (0+2)).trans rfl,h2,(K.cell (0+3)).trans rfl,h3.r,(K.cell (0+4)).trans rfl,h4,rfl⟩,fun c hc=>?_⟩
  rcases List.mem_cons.1 hc with rfl | hc
  · exact K.lt
  · exact hm c hc
structure told where
  left:List Int
  var:Int
def lL:ER told:=fun w f x bs=>∃ v0:Value,∃ b0:List Nat,f 0=some v0∧Sl 1 xG w v0 x.left b0∧f 1=some (.int .i64 x.var)∧xH x.var∧bs=b0
theorem lL.fr:Fr 2 lL:=by
  intro w w' f g x bs h hs hg;obtain⟨v0,b0,h0,k0,h1,k1,rfl⟩:=h;exact⟨v0,_,(hg 0 (by omega)).trans h0,k0.same xG.fr (fun c hc=>hs c (by simp [hc])),(hg 1 (by omega)).trans h1,k1,rfl⟩
instance:FrC 2 lL:=⟨lL.fr,fun w f x bs h=>by
  obtain⟨v0,b0,h0,k0,h1,k1,hbs⟩:=h
  exact(aS (aS sB h0 k0.one) h1 rfl)⟩
theorem lL.rd {w:World} {v:Value} {x:told} {bs:List Nat} (h:Rd (qG 2 lL) w v x bs):∃ v0:Value,∃ b0:List Nat,v= .agg #[v0,.int .i64 x.var]∧Rd (Sl 1 xG) w v0 x.left b0∧xH x.var∧bs=b0:=by
  obtain⟨⟨cs,hl,rfl,v0,b0,h0,k0,h1,k1,hbs⟩,hm⟩:=h
  match cs,hl with
  | [c0,c1],_=>
    obtain rfl:=Option.some.inj h0;obtain rfl:=Option.some.inj h1;exact⟨_,_,rfl,⟨k0,fun c hc=>hm c (by rw[hbs];simp [hc])⟩,k1,hbs⟩
theorem lL.mk2 {w:World} {f0:List Int} {f1:Int} {v0:Value} {b0:List Nat} (h0:Rd (Sl 1 xG) w v0 f0 b0) (h1:xH f1):Rd (qG 2 lL) w (.agg #[v0,.int .i64 f1]) (told.mk f0 f1) (b0):=
  ⟨⟨[v0,.int .i64 f1],rfl,rfl,_,_,rfl,h0.r,rfl,h1,rfl⟩,h0.m⟩
theorem lL.blk {w:World} {T:TypeId} {b:Nat} {f0:List Int} {f1:Int} {v0:Value} {b0:List Nat} (K:fI w b #[v0,.int .i64 f1] T) (h0:Rd (Sl 1 xG) w v0 f0 b0) (h1:xH f1):Rd (Pt 2 lL) w (.pointer (some ⟨b,0,none⟩)) (told.mk f0 f1) (b::(b0)):=by
  have hm:qM (b0) w:=h0.m;refine⟨⟨b,0,_,rfl,rfl,_,_,(K.cell (0+0)).trans rfl,h0.r,(K.cell (0+1)).trans rfl,h1,rfl⟩,fun c hc=>?_⟩
  rcases List.mem_cons.1 hc with rfl | hc
  · exact K.lt
  · exact hm c hc
structure l08Level where
  domains:List (List Int)
  chosen:Literal
def kO:ER l08Level:=fun w f x bs=>∃ v0:Value,∃ b0:List Nat,f 0=some v0∧Sl 1 dM w v0 x.domains b0∧f 1=some (.int .i64 x.chosen.var)∧xH x.chosen.var∧f 2=some (.int .i64 x.chosen.value)∧xH x.chosen.value∧bs=b0
theorem kO.fr:Fr 3 kO:=by
  intro w w' f g x bs h hs hg;obtain⟨v0,b0,h0,k0,h1,k1,h2,k2,rfl⟩:=h;exact⟨v0,_,(hg 0 (by omega)).trans h0,k0.same dM.fr (fun c hc=>hs c (by simp [hc])),(hg 1 (by omega)).trans h1,k1,(hg 2 (by omega)).trans h2,k2,rfl⟩
instance:FrC 3 kO:=⟨kO.fr,fun w f x bs h=>by
  obtain⟨v0,b0,h0,k0,h1,k1,h2,k2,hbs⟩:=h
  exact(aS (aS (aS sB h0 k0.one) h1 rfl) h2 rfl)⟩
theorem kO.rd {w:World} {v:Value} {x:l08Level} {bs:List Nat} (h:Rd (qG 3 kO) w v x bs):∃ v0:Value,∃ b0:List Nat,v= .agg #[v0,.int .i64 x.chosen.var,.int .i64 x.chosen.value]∧Rd (Sl 1 dM) w v0 x.domains b0∧xH x.chosen.var∧xH x.chosen.value∧bs=b0:=by
  obtain⟨⟨cs,hl,rfl,v0,b0,h0,k0,h1,k1,h2,k2,hbs⟩,hm⟩:=h
  match cs,hl with
  | [c0,c1,c2],_=>
    obtain rfl:=Option.some.inj h0;obtain rfl:=Option.some.inj h1;obtain rfl:=Option.some.inj h2;exact⟨_,_,rfl,⟨k0,fun c hc=>hm c (by rw[hbs];simp [hc])⟩,k1,k2,hbs⟩
theorem kO.mk2 {w:World} {f0:List (List Int)} {f1:Int} {f2:Int} {v0:Value} {b0:List Nat} (h0:Rd (Sl 1 dM) w v0 f0 b0) (h1:xH f1) (h2:xH f2):Rd (qG 3 kO) w (.agg #[v0,.int .i64 f1,.int .i64 f2]) (l08Level.mk f0 (Literal.mk f1 f2)) (b0):=
  ⟨⟨[v0,.int .i64 f1,.int .i64 f2],rfl,rfl,_,_,rfl,h0.r,rfl,h1,rfl,h2,rfl⟩,h0.m⟩
theorem kO.blk {w:World} {T:TypeId} {b:Nat} {f0:List (List Int)} {f1:Int} {f2:Int} {v0:Value} {b0:List Nat} (K:fI w b #[v0,.int .i64 f1,.int .i64 f2] T) (h0:Rd (Sl 1 dM) w v0 f0 b0) (h1:xH f1) (h2:xH f2):Rd (Pt 3 kO) w (.pointer (some ⟨b,0,none⟩)) (l08Level.mk f0 (Literal.mk f1 f2)) (b::(b0)):=by
  have hm:qM (b0) w:=h0.m;refine⟨⟨b,0,_,rfl,rfl,_,_,(K.cell (0+0)).trans rfl,h0.r,(K.cell (0+1)).trans rfl,h1,(K.cell (0+2)).trans rfl,h2,rfl⟩,fun c hc=>?_⟩
  rcases List.mem_cons.1 hc with rfl | hc
  · exact K.lt
  · exact hm c hc
structure House where
  template:Template
  jobs:List Instance
  clerks:Int
def fT:ER House:=fun w f x bs=>∃ v1 v2:Value,∃ b1 b2:List Nat,f 0=some (.int .i64 x.template.size)∧xH x.template.size∧f 1=some v1∧Sl 2 oV w v1 x.template.rels b1∧f 2=some v2∧Sl 2 xB w v2 x.jobs b2∧f 3=some (.int .i64 x.clerks)∧xH x.clerks∧bs=b1++b2
theorem fT.fr:Fr 4 fT:=by
  intro w w' f g x bs h hs hg;obtain⟨v1,v2,b1,b2,h0,k0,h1,k1,h2,k2,h3,k3,rfl⟩:=h;exact⟨v1,v2,_,_,(hg 0 (by omega)).trans h0,k0,(hg 1 (by omega)).trans h1,k1.same oV.fr (fun c hc=>hs c (by simp [hc])),(hg 2 (by omega)).trans h2,k2.same xB.fr (fun c hc=>hs c (by simp [hc])),(hg 3 (by omega)).trans h3,k3,rfl⟩
instance:FrC 4 fT:=⟨fT.fr,fun w f x bs h=>by
  obtain⟨v1,v2,b1,b2,h0,k0,h1,k1,h2,k2,h3,k3,hbs⟩:=h
  exact(aS (aS (aS (aS sB h0 rfl) h1 k1.one) h2 k2.one) h3 rfl)⟩
theorem fT.rd {w:World} {v:Value} {x:House} {bs:List Nat} (h:Rd (qG 4 fT) w v x bs):∃ v1 v2:Value,∃ b1 b2:List Nat,v= .agg #[.int .i64 x.template.size,v1,v2,.int .i64 x.clerks]∧xH x.template.size∧Rd (Sl 2 oV) w v1 x.template.rels b1∧Rd (Sl 2 xB) w v2 x.jobs b2∧xH x.clerks∧bs=b1++b2:=by
  obtain⟨⟨cs,hl,rfl,v1,v2,b1,b2,h0,k0,h1,k1,h2,k2,h3,k3,hbs⟩,hm⟩:=h
  match cs,hl with
  | [c0,c1,c2,c3],_=>
    obtain rfl:=Option.some.inj h0;obtain rfl:=Option.some.inj h1;obtain rfl:=Option.some.inj h2;obtain rfl:=Option.some.inj h3;exact⟨_,_,_,_,rfl,k0,⟨k1,fun c hc=>hm c (by rw[hbs];simp [hc])⟩,⟨k2,fun c hc=>hm c (by rw[hbs];simp [hc])⟩,k3,hbs⟩
theorem fT.mk2 {w:World} {f0:Int} {f1:List Rel} {f2:List Instance} {f3:Int} {v1:Value} {b1:List Nat} {v2:Value} {b2:List Nat} (h0:xH f0) (h1:Rd (Sl 2 oV) w v1 f1 b1) (h2:Rd (Sl 2 xB) w v2 f2 b2) (h3:xH f3):Rd (qG 4 fT) w (.agg #[.int .i64 f0,v1,v2,.int .i64 f3]) (House.mk (Template.mk f0 f1) f2 f3) (b1++b2):=
  ⟨⟨[.int .i64 f0,v1,v2,.int .i64 f3],rfl,rfl,_,_,_,_,rfl,h0,rfl,h1.r,rfl,h2.r,rfl,h3,rfl⟩,(h1.m).append h2.m⟩
theorem fT.blk {w:World} {T:TypeId} {b:Nat} {f0:Int} {f1:List Rel} {f2:List Instance} {f3:Int} {v1:Value} {b1:List Nat} {v2:Value} {b2:List Nat} (K:fI w b #[.int .i64 f0,v1,v2,.int .i64 f3] T) (h0:xH f0) (h1:Rd (Sl 2 oV) w v1 f1 b1) (h2:Rd (Sl 2 xB) w v2 f2 b2) (h3:xH f3):Rd (Pt 4 fT) w (.pointer (some ⟨b,0,none⟩)) (House.mk (Template.mk f0 f1) f2 f3) (b::(b1++b2)):=by
  have hm:qM (b1++b2) w:=(h1.m).append h2.m;refine⟨⟨b,0,_,rfl,rfl,_,_,_,_,(K.cell (0+0)).trans rfl,h0,(K.cell (0+1)).trans rfl,h1.r,(K.cell (0+2)).trans rfl,h2.r,(K.cell (0+3)).trans rfl,h3,rfl⟩,fun c hc=>?_⟩
  rcases List.mem_cons.1 hc with rfl | hc
  · exact K.lt
  · exact hm c hc
structure l01Set where
  size:Int
  arity:Int
  has:List Bool
def cS:ER l01Set:=fun w f x bs=>∃ v2:Value,∃ b2:List Nat,f 0=some (.int .i64 x.size)∧xH x.size∧f 1=some (.int .i64 x.arity)∧xH x.arity∧f 2=some v2∧Sl 1 wU w v2 x.has b2∧bs=b2
theorem cS.fr:Fr 3 cS:=by
  intro w w' f g x bs h hs hg;obtain⟨v2,b2,h0,k0,h1,k1,h2,k2,rfl⟩:=h;exact⟨v2,_,(hg 0 (by omega)).trans h0,k0,(hg 1 (by omega)).trans h1,k1,(hg 2 (by omega)).trans h2,k2.same (FrC.fr (sz:=1) (R:=wU)) (fun c hc=>hs c (by simp [hc])),rfl⟩
instance:FrC 3 cS:=⟨cS.fr,fun w f x bs h=>by
  obtain⟨v2,b2,h0,k0,h1,k1,h2,k2,hbs⟩:=h
  exact(aS (aS (aS sB h0 rfl) h1 rfl) h2 k2.one)⟩
theorem cS.rd {w:World} {v:Value} {x:l01Set} {bs:List Nat} (h:Rd (qG 3 cS) w v x bs):∃ v2:Value,∃ b2:List Nat,v= .agg #[.int .i64 x.size,.int .i64 x.arity,v2]∧xH x.size∧xH x.arity∧Rd (Sl 1 wU) w v2 x.has b2∧bs=b2:=by
  obtain⟨⟨cs,hl,rfl,v2,b2,h0,k0,h1,k1,h2,k2,hbs⟩,hm⟩:=h
  match cs,hl with
  | [c0,c1,c2],_=>
    obtain rfl:=Option.some.inj h0;obtain rfl:=Option.some.inj h1;obtain rfl:=Option.some.inj h2;exact⟨_,_,rfl,k0,k1,⟨k2,fun c hc=>hm c (by rw[hbs];simp [hc])⟩,hbs⟩
theorem cS.mk2 {w:World} {f0:Int} {f1:Int} {f2:List Bool} {v2:Value} {b2:List Nat} (h0:xH f0) (h1:xH f1) (h2:Rd (Sl 1 wU) w v2 f2 b2):Rd (qG 3 cS) w (.agg #[.int .i64 f0,.int .i64 f1,v2]) (l01Set.mk f0 f1 f2) (b2):=
  ⟨⟨[.int .i64 f0,.int .i64 f1,v2],rfl,rfl,_,_,rfl,h0,rfl,h1,rfl,h2.r,rfl⟩,h2.m⟩
theorem cS.blk {w:World} {T:TypeId} {b:Nat} {f0:Int} {f1:Int} {f2:List Bool} {v2:Value} {b2:List Nat} (K:fI w b #[.int .i64 f0,.int .i64 f1,v2] T) (h0:xH f0) (h1:xH f1) (h2:Rd (Sl 1 wU) w v2 f2 b2):Rd (Pt 3 cS) w (.pointer (some ⟨b,0,none⟩)) (l01Set.mk f0 f1 f2) (b::(b2)):=by
  have hm:qM (b2) w:=h2.m;refine⟨⟨b,0,_,rfl,rfl,_,_,(K.cell (0+0)).trans rfl,h0,(K.cell (0+1)).trans rfl,h1,(K.cell (0+2)).trans rfl,h2.r,rfl⟩,fun c hc=>?_⟩
  rcases List.mem_cons.1 hc with rfl | hc
  · exact K.lt
  · exact hm c hc
section
variable {P:Program} {ops:Array Oper} {Q:Exit→Act→World→Prop} {C:World→Prop} {K:Act→Prop} {a:Act} {w:World} {n:Nat} {L:List (Nat×Value)} {rest:List Oper} {d:Nat} {dd:Option Tmp} {ty:TypeId} {pos:String} {af:Array Edge} {g:Option (Nat×Bool)}
end
theorem xYn {α:Type} {sz:Nat} {R:ER α} {w:World} {T:TypeId} {b:Nat} {p:Value} {x:α} {bs:List Nat} (K:fI w b #[p] T) (h:Rd (Pt sz R) w p x bs):Rd (Pt 1 (RP sz R)) w (.pointer (some ⟨b,0,none⟩)) x (b::bs):=
  ⟨⟨b,0,_,rfl,rfl,p,(K.cell (0+0)).trans rfl,h.r⟩,fun c hc=>by
    rcases List.mem_cons.1 hc with rfl | hc
    · exact K.lt
    · exact h.m c hc⟩
end Go.Proofs.YtlommebgedmjdaaGreatDoor
