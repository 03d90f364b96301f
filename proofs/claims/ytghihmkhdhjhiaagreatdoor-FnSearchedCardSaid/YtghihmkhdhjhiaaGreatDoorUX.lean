import Derived.Test.YtghihmkhdhjhiaaGreatDoorU
import Derived.Test.YtghihmkhdhjhiaaGreatDoorQ
namespace Go.Proofs.YtghihmkhdhjhiaaGreatDoor
set_option linter.unusedVariables false
set_option linter.unusedSimpArgs false
open Go.RowKit
def RP {α:Type} (sz:Nat) (R:ER α):ER α:=fun w f x bs=>∃ p,f 0=some p∧Pt sz R w p x bs
instance {α:Type} {sz:Nat} {R:ER α} [h:FrC sz R]:FrC 1 (RP sz R):=⟨fun w w' f g x bs ⟨p,h0,hp⟩ hs hg=>⟨p,(hg 0 (by omega)).trans h0,VF.same hp hs⟩,fun w f x bs h j hj=>by
  obtain rfl:j=0:=by omega
  obtain⟨p,h0,b,o,bi,rfl,_⟩:=h
  exact⟨_,h0,rfl⟩⟩
theorem Pt.one' {α:Type} {sz:Nat} {R:ER α} {w:World} {v:Value} {x:α} {bs:List Nat} (h:Pt sz R w v x bs):v.oneCell'=true:=by
  obtain⟨b,o,bi,rfl,_⟩:=h
  rfl
structure solver where
  t:Template
  vars:Int
  due:List (List Atom)
def eL:ER solver:=fun w f x bs=>∃ v1 v3:Value,∃ b1 b3:List Nat,f 0=some (.int .i64 x.t.size)∧xO x.t.size∧f 1=some v1∧Sl 2 qG w v1 x.t.rels b1∧f 2=some (.int .i64 x.vars)∧xO x.vars∧f 3=some v3∧Sl 1 (qK 2 cL) w v3 x.due b3∧bs=b1++b3
theorem eL.fr:Fr 4 eL:=by
  intro w w' f g x bs h hs hg;obtain⟨v1,v3,b1,b3,h0,k0,h1,k1,h2,k2,h3,k3,rfl⟩:=h;exact⟨v1,v3,_,_,(hg 0 (by omega)).trans h0,k0,(hg 1 (by omega)).trans h1,k1.same qG.fr (fun c hc=>hs c (by simp [hc])),(hg 2 (by omega)).trans h2,k2,(hg 3 (by omega)).trans h3,k3.same (qK.fr cL.fr) (fun c hc=>hs c (by simp [hc])),rfl⟩
instance:FrC 4 eL:=⟨eL.fr,fun w f x bs h=>by
  obtain⟨v1,v3,b1,b3,h0,k0,h1,k1,h2,k2,h3,k3,hbs⟩:=h
  exact(bD (bD (bD (bD mD h0 rfl) h1 k1.one) h2 rfl) h3 k3.one)⟩
theorem eL.mk2 {w:World} {f0:Int} {f1:List Rel} {f2:Int} {f3:List (List Atom)} {v1:Value} {b1:List Nat} {v3:Value} {b3:List Nat} (h0:xO f0) (h1:Rd (Sl 2 qG) w v1 f1 b1) (h2:xO f2) (h3:Rd (Sl 1 (qK 2 cL)) w v3 f3 b3):Rd (kJ 4 eL) w (.agg #[.int .i64 f0,v1,.int .i64 f2,v3]) (solver.mk (Template.mk f0 f1) f2 f3) (b1++b3):=
  ⟨⟨[.int .i64 f0,v1,.int .i64 f2,v3],rfl,rfl,_,_,_,_,rfl,h0,rfl,h1.r,rfl,h2,rfl,h3.r,rfl⟩,(h1.m).append h3.m⟩
theorem eL.blk {w:World} {T:TypeId} {b:Nat} {f0:Int} {f1:List Rel} {f2:Int} {f3:List (List Atom)} {v1:Value} {b1:List Nat} {v3:Value} {b3:List Nat} (K:eZ w b #[.int .i64 f0,v1,.int .i64 f2,v3] T) (h0:xO f0) (h1:Rd (Sl 2 qG) w v1 f1 b1) (h2:xO f2) (h3:Rd (Sl 1 (qK 2 cL)) w v3 f3 b3):Rd (Pt 4 eL) w (.pointer (some ⟨b,0,none⟩)) (solver.mk (Template.mk f0 f1) f2 f3) (b::(b1++b3)):=by
  have hm:vZ (b1++b3) w:=(h1.m).append h3.m;refine⟨⟨b,0,_,rfl,rfl,_,_,_,_,(K.cell (0+0)).trans rfl,h0,(K.cell (0+1)).trans rfl,h1.r,(K.cell (0+2)).trans rfl,h2,(K.cell (0+3)).trans rfl,h3.r,rfl⟩,fun c hc=>?_⟩
  rcases List.mem_cons.1 hc with rfl | hc
  · exact K.lt
  · exact hm c hc
structure l05Find where
  t:Template
  x:Instance
  most:Int
  list:List (List Int)
  n:Int
def kG:ER l05Find:=fun w f x bs=>∃ v0 v1 v3:Value,∃ b0 b1 b3:List Nat,f 0=some v0∧Pt 2 xJ w v0 x.t b0∧f 1=some v1∧Pt 2 xK w v1 x.x b1∧f 2=some (.int .i64 x.most)∧xO x.most∧f 3=some v3∧Sl 1 gH w v3 x.list b3∧f 4=some (.int .i64 x.n)∧xO x.n∧bs=b0++b1++b3
theorem kG.fr:Fr 5 kG:=by
  intro w w' f g x bs h hs hg;obtain⟨v0,v1,v3,b0,b1,b3,h0,k0,h1,k1,h2,k2,h3,k3,h4,k4,rfl⟩:=h;exact⟨v0,v1,v3,_,_,_,(hg 0 (by omega)).trans h0,VF.same k0 (fun c hc=>hs c (by simp [hc])),(hg 1 (by omega)).trans h1,VF.same k1 (fun c hc=>hs c (by simp [hc])),(hg 2 (by omega)).trans h2,k2,(hg 3 (by omega)).trans h3,k3.same gH.fr (fun c hc=>hs c (by simp [hc])),(hg 4 (by omega)).trans h4,k4,rfl⟩
instance:FrC 5 kG:=⟨kG.fr,fun w f x bs h=>by
  obtain⟨v0,v1,v3,b0,b1,b3,h0,k0,h1,k1,h2,k2,h3,k3,h4,k4,hbs⟩:=h
  exact(bD (bD (bD (bD (bD mD h0 k0.one') h1 k1.one') h2 rfl) h3 k3.one) h4 rfl)⟩
theorem kG.f0 {w:World} {y:l05Find}:∀ f bi,kG w f y bi→∃ bj,(RP 2 xJ) w (fun j=>f (0+j)) y.t bj∧∀ c∈bj,c∈bi:=fun f bi h=>by
  obtain⟨v0,v1,v3,b0,b1,b3,h0,k0,h1,k1,h2,k2,h3,k3,h4,k4,hbs⟩:=h;exact⟨b0,⟨v0,by simpa using h0,k0⟩,fun c hc=>by rw[hbs];simp [hc]⟩
theorem kG.f1 {w:World} {y:l05Find}:∀ f bi,kG w f y bi→∃ bj,(RP 2 xK) w (fun j=>f (1+j)) y.x bj∧∀ c∈bj,c∈bi:=fun f bi h=>by
  obtain⟨v0,v1,v3,b0,b1,b3,h0,k0,h1,k1,h2,k2,h3,k3,h4,k4,hbs⟩:=h;exact⟨b1,⟨v1,by simpa using h1,k1⟩,fun c hc=>by rw[hbs];simp [hc]⟩
theorem kG.mk2 {w:World} {f0:Template} {f1:Instance} {f2:Int} {f3:List (List Int)} {f4:Int} {v0:Value} {b0:List Nat} {v1:Value} {b1:List Nat} {v3:Value} {b3:List Nat} (h0:Rd (Pt 2 xJ) w v0 f0 b0) (h1:Rd (Pt 2 xK) w v1 f1 b1) (h2:xO f2) (h3:Rd (Sl 1 gH) w v3 f3 b3) (h4:xO f4):Rd (kJ 5 kG) w (.agg #[v0,v1,.int .i64 f2,v3,.int .i64 f4]) (l05Find.mk f0 f1 f2 f3 f4) (b0++b1++b3):=
  ⟨⟨[v0,v1,.int .i64 f2,v3,.int .i64 f4],rfl,rfl,_,_,_,_,_,_,rfl,h0.r,rfl,h1.r,rfl,h2,rfl,h3.r,rfl,h4,rfl⟩,((h0.m).append h1.m).append h3.m⟩
theorem kG.blk {w:World} {T:TypeId} {b:Nat} {f0:Template} {f1:Instance} {f2:Int} {f3:List (List Int)} {f4:Int} {v0:Value} {b0:List Nat} {v1:Value} {b1:List Nat} {v3:Value} {b3:List Nat} (K:eZ w b #[v0,v1,.int .i64 f2,v3,.int .i64 f4] T) (h0:Rd (Pt 2 xJ) w v0 f0 b0) (h1:Rd (Pt 2 xK) w v1 f1 b1) (h2:xO f2) (h3:Rd (Sl 1 gH) w v3 f3 b3) (h4:xO f4):Rd (Pt 5 kG) w (.pointer (some ⟨b,0,none⟩)) (l05Find.mk f0 f1 f2 f3 f4) (b::(b0++b1++b3)):=by
  have hm:vZ (b0++b1++b3) w:=((h0.m).append h1.m).append h3.m;refine⟨⟨b,0,_,rfl,rfl,_,_,_,_,_,_,(K.cell (0+0)).trans rfl,h0.r,(K.cell (0+1)).trans rfl,h1.r,(K.cell (0+2)).trans rfl,h2,(K.cell (0+3)).trans rfl,h3.r,(K.cell (0+4)).trans rfl,h4,rfl⟩,fun c hc=>?_⟩
  rcases List.mem_cons.1 hc with rfl | hc
  · exact K.lt
  · exact hm c hc
structure told where
  left:List Int
  var:Int
def lC:ER told:=fun w f x bs=>∃ v0:Value,∃ b0:List Nat,f 0=some v0∧Sl 1 xI w v0 x.left b0∧f 1=some (.int .i64 x.var)∧xO x.var∧bs=b0
theorem lC.fr:Fr 2 lC:=by
  intro w w' f g x bs h hs hg;obtain⟨v0,b0,h0,k0,h1,k1,rfl⟩:=h;exact⟨v0,_,(hg 0 (by omega)).trans h0,k0.same xI.fr (fun c hc=>hs c (by simp [hc])),(hg 1 (by omega)).trans h1,k1,rfl⟩
instance:FrC 2 lC:=⟨lC.fr,fun w f x bs h=>by
  obtain⟨v0,b0,h0,k0,h1,k1,hbs⟩:=h
  exact(bD (bD mD h0 k0.one) h1 rfl)⟩
theorem lC.mk2 {w:World} {f0:List Int} {f1:Int} {v0:Value} {b0:List Nat} (h0:Rd (Sl 1 xI) w v0 f0 b0) (h1:xO f1):Rd (kJ 2 lC) w (.agg #[v0,.int .i64 f1]) (told.mk f0 f1) (b0):=
  ⟨⟨[v0,.int .i64 f1],rfl,rfl,_,_,rfl,h0.r,rfl,h1,rfl⟩,h0.m⟩
theorem lC.blk {w:World} {T:TypeId} {b:Nat} {f0:List Int} {f1:Int} {v0:Value} {b0:List Nat} (K:eZ w b #[v0,.int .i64 f1] T) (h0:Rd (Sl 1 xI) w v0 f0 b0) (h1:xO f1):Rd (Pt 2 lC) w (.pointer (some ⟨b,0,none⟩)) (told.mk f0 f1) (b::(b0)):=by
  have hm:vZ (b0) w:=h0.m;refine⟨⟨b,0,_,rfl,rfl,_,_,(K.cell (0+0)).trans rfl,h0.r,(K.cell (0+1)).trans rfl,h1,rfl⟩,fun c hc=>?_⟩
  rcases List.mem_cons.1 hc with rfl | hc
  · exact K.lt
  · exact hm c hc
structure l01Set where
  size:Int
  arity:Int
  has:List Bool
def eO:ER l01Set:=fun w f x bs=>∃ v2:Value,∃ b2:List Nat,f 0=some (.int .i64 x.size)∧xO x.size∧f 1=some (.int .i64 x.arity)∧xO x.arity∧f 2=some v2∧Sl 1 pU w v2 x.has b2∧bs=b2
theorem eO.fr:Fr 3 eO:=by
  intro w w' f g x bs h hs hg;obtain⟨v2,b2,h0,k0,h1,k1,h2,k2,rfl⟩:=h;exact⟨v2,_,(hg 0 (by omega)).trans h0,k0,(hg 1 (by omega)).trans h1,k1,(hg 2 (by omega)).trans h2,k2.same (FrC.fr (sz:=1) (R:=pU)) (fun c hc=>hs c (by simp [hc])),rfl⟩
instance:FrC 3 eO:=⟨eO.fr,fun w f x bs h=>by
  obtain⟨v2,b2,h0,k0,h1,k1,h2,k2,hbs⟩:=h
  exact(bD (bD (bD mD h0 rfl) h1 rfl) h2 k2.one)⟩
theorem eO.mk2 {w:World} {f0:Int} {f1:Int} {f2:List Bool} {v2:Value} {b2:List Nat} (h0:xO f0) (h1:xO f1) (h2:Rd (Sl 1 pU) w v2 f2 b2):Rd (kJ 3 eO) w (.agg #[.int .i64 f0,.int .i64 f1,v2]) (l01Set.mk f0 f1 f2) (b2):=
  ⟨⟨[.int .i64 f0,.int .i64 f1,v2],rfl,rfl,_,_,rfl,h0,rfl,h1,rfl,h2.r,rfl⟩,h2.m⟩
theorem eO.blk {w:World} {T:TypeId} {b:Nat} {f0:Int} {f1:Int} {f2:List Bool} {v2:Value} {b2:List Nat} (K:eZ w b #[.int .i64 f0,.int .i64 f1,v2] T) (h0:xO f0) (h1:xO f1) (h2:Rd (Sl 1 pU) w v2 f2 b2):Rd (Pt 3 eO) w (.pointer (some ⟨b,0,none⟩)) (l01Set.mk f0 f1 f2) (b::(b2)):=by
  have hm:vZ (b2) w:=h2.m;refine⟨⟨b,0,_,rfl,rfl,_,_,(K.cell (0+0)).trans rfl,h0,(K.cell (0+1)).trans rfl,h1,(K.cell (0+2)).trans rfl,h2.r,rfl⟩,fun c hc=>?_⟩
  rcases List.mem_cons.1 hc with rfl | hc
  · exact K.lt
  · exact hm c hc
section
variable {P:Program} {ops:Array Oper} {Q:Exit→Act→World→Prop} {C:World→Prop} {K:Act→Prop} {a:Act} {w:World} {n:Nat} {L:List (Nat×Value)} {rest:List Oper} {d:Nat} {dd:Option Tmp} {ty:TypeId} {pos:String} {af:Array Edge} {g:Option (Nat×Bool)}
end
end Go.Proofs.YtghihmkhdhjhiaaGreatDoor
