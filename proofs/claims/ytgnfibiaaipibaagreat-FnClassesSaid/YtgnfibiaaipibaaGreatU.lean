import Derived.Test.YtgnfibiaaipibaaGreatH
import Derived.Test.YtgnfibiaaipibaaGreatT
namespace Go.Proofs.YtgnfibiaaipibaaGreat
set_option linter.unusedVariables false
set_option linter.unusedSimpArgs false
open Go.RowKit
theorem bV {n:Nat} {f:Nat→Option Value} (h:∀ j,j<n→∃ v:Value,f j=some v∧v.oneCell'=true) {u:Value} (e:f n=some u) (hu:u.oneCell'=true):∀ j,j<n+1→∃ v:Value,f j=some v∧v.oneCell'=true:=fun j hj=>by
  by_cases hjn:j=n
  · subst hjn;exact⟨u,e,hu⟩
  · exact h j (by omega)
theorem tot0 {f:Nat→Option Value}:∀ j,j<0→∃ v:Value,f j=some v∧v.oneCell'=true:=fun j hj=>by omega
theorem Sl.one {α:Type} {sz:Nat} {R:ER α} {w:World} {v:Value} {l:List α} {bs:List Nat} (h:Sl sz R w v l bs):v.oneCell'=true:=by obtain⟨a,c,rfl⟩:=h.val;rfl
instance:FrC 2 qD:=⟨qD.fr,fun w f x bs h=>by
  obtain⟨v1,b1,h0,k0,h1,k1,hbs⟩:=h
  exact(bV (bV tot0 h0 rfl) h1 k1.one)⟩
theorem qD.f0 {w:World} {y:Rel}:∀ f bi,qD w f y bi→∃ bj,xH w (fun j=>f (0+j)) y.arity bj∧∀ c∈bj,c∈bi:=fun f bi h=>by
  obtain⟨v1,b1,h0,k0,h1,k1,hbs⟩:=h;exact⟨[],⟨by simpa using h0,k0,rfl⟩,fun c hc=>nomatch hc⟩
theorem qD.f1 {w:World} {y:Rel}:∀ f bi,qD w f y bi→∃ bj,(vO 1 iH) w (fun j=>f (1+j)) y.tuples bj∧∀ c∈bj,c∈bi:=fun f bi h=>by
  obtain⟨v1,b1,h0,k0,h1,k1,hbs⟩:=h;exact⟨b1,⟨v1,by simpa using h1,k1⟩,fun c hc=>by rw[hbs];simp [hc]⟩
theorem qD.rd {w:World} {v:Value} {x:Rel} {bs:List Nat} (h:Rd (zX 2 qD) w v x bs):∃ v1:Value,∃ b1:List Nat,v= .agg #[.int .i64 x.arity,v1]∧xZ x.arity∧Rd (Sl 1 iH) w v1 x.tuples b1∧bs=b1:=by
  obtain⟨v1,b1,e,k0,k1,hbs⟩:=qD.open h.r;exact⟨v1,b1,e,k0,⟨k1,fun c hc=>h.m c (by rw[hbs];simp [hc])⟩,hbs⟩
theorem qD.mk2 {w:World} {f0:Int} {f1:List (List Int)} {v1:Value} {b1:List Nat} (h0:xZ f0) (h1:Rd (Sl 1 iH) w v1 f1 b1):Rd (zX 2 qD) w (.agg #[.int .i64 f0,v1]) (Rel.mk f0 f1) (b1):=
  ⟨qD.mk' (x:=⟨f0,f1⟩) h0 h1.r,h1.m⟩
theorem qD.blk {w:World} {T:TypeId} {b:Nat} {f0:Int} {f1:List (List Int)} {v1:Value} {b1:List Nat} (K:fS w b #[.int .i64 f0,v1] T) (h0:xZ f0) (h1:Rd (Sl 1 iH) w v1 f1 b1):Rd (Pt 2 qD) w (.pointer (some ⟨b,0,none⟩)) (Rel.mk f0 f1) (b::(b1)):=by
  have hm:zD (b1) w:=h1.m;refine⟨⟨b,0,_,rfl,rfl,_,_,(K.cell (0+0)).trans rfl,h0,(K.cell (0+1)).trans rfl,h1.r,rfl⟩,fun c hc=>?_⟩
  rcases List.mem_cons.1 hc with rfl | hc
  · exact K.lt
  · exact hm c hc
instance:FrC 2 xI:=⟨xI.fr,fun w f x bs h=>by
  obtain⟨v1,b1,h0,k0,h1,k1,hbs⟩:=h
  exact(bV (bV tot0 h0 rfl) h1 k1.one)⟩
theorem xI.f0 {w:World} {y:Template}:∀ f bi,xI w f y bi→∃ bj,xH w (fun j=>f (0+j)) y.size bj∧∀ c∈bj,c∈bi:=fun f bi h=>by
  obtain⟨v1,b1,h0,k0,h1,k1,hbs⟩:=h;exact⟨[],⟨by simpa using h0,k0,rfl⟩,fun c hc=>nomatch hc⟩
theorem xI.f1 {w:World} {y:Template}:∀ f bi,xI w f y bi→∃ bj,(vO 2 qD) w (fun j=>f (1+j)) y.rels bj∧∀ c∈bj,c∈bi:=fun f bi h=>by
  obtain⟨v1,b1,h0,k0,h1,k1,hbs⟩:=h;exact⟨b1,⟨v1,by simpa using h1,k1⟩,fun c hc=>by rw[hbs];simp [hc]⟩
theorem xI.rd {w:World} {v:Value} {x:Template} {bs:List Nat} (h:Rd (zX 2 xI) w v x bs):∃ v1:Value,∃ b1:List Nat,v= .agg #[.int .i64 x.size,v1]∧xZ x.size∧Rd (Sl 2 qD) w v1 x.rels b1∧bs=b1:=by
  obtain⟨v1,b1,e,k0,k1,hbs⟩:=xI.open h.r;exact⟨v1,b1,e,k0,⟨k1,fun c hc=>h.m c (by rw[hbs];simp [hc])⟩,hbs⟩
theorem xI.mk2 {w:World} {f0:Int} {f1:List Rel} {v1:Value} {b1:List Nat} (h0:xZ f0) (h1:Rd (Sl 2 qD) w v1 f1 b1):Rd (zX 2 xI) w (.agg #[.int .i64 f0,v1]) (Template.mk f0 f1) (b1):=
  ⟨xI.mk' (x:=⟨f0,f1⟩) h0 h1.r,h1.m⟩
theorem xI.blk {w:World} {T:TypeId} {b:Nat} {f0:Int} {f1:List Rel} {v1:Value} {b1:List Nat} (K:fS w b #[.int .i64 f0,v1] T) (h0:xZ f0) (h1:Rd (Sl 2 qD) w v1 f1 b1):Rd (Pt 2 xI) w (.pointer (some ⟨b,0,none⟩)) (Template.mk f0 f1) (b::(b1)):=by
  have hm:zD (b1) w:=h1.m;refine⟨⟨b,0,_,rfl,rfl,_,_,(K.cell (0+0)).trans rfl,h0,(K.cell (0+1)).trans rfl,h1.r,rfl⟩,fun c hc=>?_⟩
  rcases List.mem_cons.1 hc with rfl | hc
  · exact K.lt
  · exact hm c hc
instance:FrC 2 cS:=⟨cS.fr,fun w f x bs h=>by
  obtain⟨v1,b1,h0,k0,h1,k1,hbs⟩:=h
  exact(bV (bV tot0 h0 rfl) h1 k1.one)⟩
theorem cS.f0 {w:World} {y:Op}:∀ f bi,cS w f y bi→∃ bj,xH w (fun j=>f (0+j)) y.arity bj∧∀ c∈bj,c∈bi:=fun f bi h=>by
  obtain⟨v1,b1,h0,k0,h1,k1,hbs⟩:=h;exact⟨[],⟨by simpa using h0,k0,rfl⟩,fun c hc=>nomatch hc⟩
theorem cS.f1 {w:World} {y:Op}:∀ f bi,cS w f y bi→∃ bj,(vO 1 xH) w (fun j=>f (1+j)) y.table bj∧∀ c∈bj,c∈bi:=fun f bi h=>by
  obtain⟨v1,b1,h0,k0,h1,k1,hbs⟩:=h;exact⟨b1,⟨v1,by simpa using h1,k1⟩,fun c hc=>by rw[hbs];simp [hc]⟩
theorem cS.rd {w:World} {v:Value} {x:Op} {bs:List Nat} (h:Rd (zX 2 cS) w v x bs):∃ v1:Value,∃ b1:List Nat,v= .agg #[.int .i64 x.arity,v1]∧xZ x.arity∧Rd (Sl 1 xH) w v1 x.table b1∧bs=b1:=by
  obtain⟨v1,b1,e,k0,k1,hbs⟩:=cS.open h.r;exact⟨v1,b1,e,k0,⟨k1,fun c hc=>h.m c (by rw[hbs];simp [hc])⟩,hbs⟩
theorem cS.mk2 {w:World} {f0:Int} {f1:List Int} {v1:Value} {b1:List Nat} (h0:xZ f0) (h1:Rd (Sl 1 xH) w v1 f1 b1):Rd (zX 2 cS) w (.agg #[.int .i64 f0,v1]) (Op.mk f0 f1) (b1):=
  ⟨cS.mk' (x:=⟨f0,f1⟩) h0 h1.r,h1.m⟩
theorem cS.blk {w:World} {T:TypeId} {b:Nat} {f0:Int} {f1:List Int} {v1:Value} {b1:List Nat} (K:fS w b #[.int .i64 f0,v1] T) (h0:xZ f0) (h1:Rd (Sl 1 xH) w v1 f1 b1):Rd (Pt 2 cS) w (.pointer (some ⟨b,0,none⟩)) (Op.mk f0 f1) (b::(b1)):=by
  have hm:zD (b1) w:=h1.m;refine⟨⟨b,0,_,rfl,rfl,_,_,(K.cell (0+0)).trans rfl,h0,(K.cell (0+1)).trans rfl,h1.r,rfl⟩,fun c hc=>?_⟩
  rcases List.mem_cons.1 hc with rfl | hc
  · exact K.lt
  · exact hm c hc
instance:FrC 2 zL:=⟨zL.fr,fun w f x bs h=>by
  obtain⟨v1,b1,h0,k0,h1,k1,hbs⟩:=h
  exact(bV (bV tot0 h0 rfl) h1 k1.one)⟩
theorem zL.rd {w:World} {v:Value} {x:Atom} {bs:List Nat} (h:Rd (zX 2 zL) w v x bs):∃ v1:Value,∃ b1:List Nat,v= .agg #[.int .i64 x.rel,v1]∧xZ x.rel∧Rd (Sl 1 xH) w v1 x.args b1∧bs=b1:=by
  obtain⟨v1,b1,e,k0,k1,hbs⟩:=zL.open h.r;exact⟨v1,b1,e,k0,⟨k1,fun c hc=>h.m c (by rw[hbs];simp [hc])⟩,hbs⟩
theorem zL.mk2 {w:World} {f0:Int} {f1:List Int} {v1:Value} {b1:List Nat} (h0:xZ f0) (h1:Rd (Sl 1 xH) w v1 f1 b1):Rd (zX 2 zL) w (.agg #[.int .i64 f0,v1]) (Atom.mk f0 f1) (b1):=
  ⟨zL.mk' (x:=⟨f0,f1⟩) h0 h1.r,h1.m⟩
theorem zL.blk {w:World} {T:TypeId} {b:Nat} {f0:Int} {f1:List Int} {v1:Value} {b1:List Nat} (K:fS w b #[.int .i64 f0,v1] T) (h0:xZ f0) (h1:Rd (Sl 1 xH) w v1 f1 b1):Rd (Pt 2 zL) w (.pointer (some ⟨b,0,none⟩)) (Atom.mk f0 f1) (b::(b1)):=by
  have hm:zD (b1) w:=h1.m;refine⟨⟨b,0,_,rfl,rfl,_,_,(K.cell (0+0)).trans rfl,h0,(K.cell (0+1)).trans rfl,h1.r,rfl⟩,fun c hc=>?_⟩
  rcases List.mem_cons.1 hc with rfl | hc
  · exact K.lt
  · exact hm c hc
instance:FrC 3 kP:=⟨kP.fr,fun w f x bs h=>by
  obtain⟨v2,b2,h0,k0,h1,k1,h2,k2,hbs⟩:=h
  exact(bV (bV (bV tot0 h0 rfl) h1 rfl) h2 k2.one)⟩
theorem kP.mk2 {w:World} {f0:Int} {f1:Int} {f2:List Atom} {v2:Value} {b2:List Nat} (h0:xZ f0) (h1:xZ f1) (h2:Rd (Sl 2 zL) w v2 f2 b2):Rd (zX 3 kP) w (.agg #[.int .i64 f0,.int .i64 f1,v2]) (Formula.mk f0 f1 f2) (b2):=
  ⟨kP.mk' (x:=⟨f0,f1,f2⟩) h0 h1 h2.r,h2.m⟩
theorem kP.blk {w:World} {T:TypeId} {b:Nat} {f0:Int} {f1:Int} {f2:List Atom} {v2:Value} {b2:List Nat} (K:fS w b #[.int .i64 f0,.int .i64 f1,v2] T) (h0:xZ f0) (h1:xZ f1) (h2:Rd (Sl 2 zL) w v2 f2 b2):Rd (Pt 3 kP) w (.pointer (some ⟨b,0,none⟩)) (Formula.mk f0 f1 f2) (b::(b2)):=by
  have hm:zD (b2) w:=h2.m;refine⟨⟨b,0,_,rfl,rfl,_,_,(K.cell (0+0)).trans rfl,h0,(K.cell (0+1)).trans rfl,h1,(K.cell (0+2)).trans rfl,h2.r,rfl⟩,fun c hc=>?_⟩
  rcases List.mem_cons.1 hc with rfl | hc
  · exact K.lt
  · exact hm c hc
instance:FrC 2 vU:=⟨vU.fr,fun w f x bs h=>by
  obtain⟨v1,b1,h0,k0,h1,k1,hbs⟩:=h
  exact(bV (bV tot0 h0 rfl) h1 k1.one)⟩
theorem vU.f0 {w:World} {y:Con}:∀ f bi,vU w f y bi→∃ bj,xH w (fun j=>f (0+j)) y.rel bj∧∀ c∈bj,c∈bi:=fun f bi h=>by
  obtain⟨v1,b1,h0,k0,h1,k1,hbs⟩:=h;exact⟨[],⟨by simpa using h0,k0,rfl⟩,fun c hc=>nomatch hc⟩
theorem vU.f1 {w:World} {y:Con}:∀ f bi,vU w f y bi→∃ bj,(vO 1 xH) w (fun j=>f (1+j)) y.scope bj∧∀ c∈bj,c∈bi:=fun f bi h=>by
  obtain⟨v1,b1,h0,k0,h1,k1,hbs⟩:=h;exact⟨b1,⟨v1,by simpa using h1,k1⟩,fun c hc=>by rw[hbs];simp [hc]⟩
theorem vU.rd {w:World} {v:Value} {x:Con} {bs:List Nat} (h:Rd (zX 2 vU) w v x bs):∃ v1:Value,∃ b1:List Nat,v= .agg #[.int .i64 x.rel,v1]∧xZ x.rel∧Rd (Sl 1 xH) w v1 x.scope b1∧bs=b1:=by
  obtain⟨v1,b1,e,k0,k1,hbs⟩:=vU.open h.r;exact⟨v1,b1,e,k0,⟨k1,fun c hc=>h.m c (by rw[hbs];simp [hc])⟩,hbs⟩
theorem vU.mk2 {w:World} {f0:Int} {f1:List Int} {v1:Value} {b1:List Nat} (h0:xZ f0) (h1:Rd (Sl 1 xH) w v1 f1 b1):Rd (zX 2 vU) w (.agg #[.int .i64 f0,v1]) (Con.mk f0 f1) (b1):=
  ⟨vU.mk' (x:=⟨f0,f1⟩) h0 h1.r,h1.m⟩
theorem vU.blk {w:World} {T:TypeId} {b:Nat} {f0:Int} {f1:List Int} {v1:Value} {b1:List Nat} (K:fS w b #[.int .i64 f0,v1] T) (h0:xZ f0) (h1:Rd (Sl 1 xH) w v1 f1 b1):Rd (Pt 2 vU) w (.pointer (some ⟨b,0,none⟩)) (Con.mk f0 f1) (b::(b1)):=by
  have hm:zD (b1) w:=h1.m;refine⟨⟨b,0,_,rfl,rfl,_,_,(K.cell (0+0)).trans rfl,h0,(K.cell (0+1)).trans rfl,h1.r,rfl⟩,fun c hc=>?_⟩
  rcases List.mem_cons.1 hc with rfl | hc
  · exact K.lt
  · exact hm c hc
instance:FrC 2 xO:=⟨xO.fr,fun w f x bs h=>by
  obtain⟨v1,b1,h0,k0,h1,k1,hbs⟩:=h
  exact(bV (bV tot0 h0 rfl) h1 k1.one)⟩
theorem xO.f0 {w:World} {y:Instance}:∀ f bi,xO w f y bi→∃ bj,xH w (fun j=>f (0+j)) y.vars bj∧∀ c∈bj,c∈bi:=fun f bi h=>by
  obtain⟨v1,b1,h0,k0,h1,k1,hbs⟩:=h;exact⟨[],⟨by simpa using h0,k0,rfl⟩,fun c hc=>nomatch hc⟩
theorem xO.f1 {w:World} {y:Instance}:∀ f bi,xO w f y bi→∃ bj,(vO 2 vU) w (fun j=>f (1+j)) y.cons bj∧∀ c∈bj,c∈bi:=fun f bi h=>by
  obtain⟨v1,b1,h0,k0,h1,k1,hbs⟩:=h;exact⟨b1,⟨v1,by simpa using h1,k1⟩,fun c hc=>by rw[hbs];simp [hc]⟩
theorem xO.rd {w:World} {v:Value} {x:Instance} {bs:List Nat} (h:Rd (zX 2 xO) w v x bs):∃ v1:Value,∃ b1:List Nat,v= .agg #[.int .i64 x.vars,v1]∧xZ x.vars∧Rd (Sl 2 vU) w v1 x.cons b1∧bs=b1:=by
  obtain⟨v1,b1,e,k0,k1,hbs⟩:=xO.open h.r;exact⟨v1,b1,e,k0,⟨k1,fun c hc=>h.m c (by rw[hbs];simp [hc])⟩,hbs⟩
theorem xO.mk2 {w:World} {f0:Int} {f1:List Con} {v1:Value} {b1:List Nat} (h0:xZ f0) (h1:Rd (Sl 2 vU) w v1 f1 b1):Rd (zX 2 xO) w (.agg #[.int .i64 f0,v1]) (Instance.mk f0 f1) (b1):=
  ⟨xO.mk' (x:=⟨f0,f1⟩) h0 h1.r,h1.m⟩
theorem xO.blk {w:World} {T:TypeId} {b:Nat} {f0:Int} {f1:List Con} {v1:Value} {b1:List Nat} (K:fS w b #[.int .i64 f0,v1] T) (h0:xZ f0) (h1:Rd (Sl 2 vU) w v1 f1 b1):Rd (Pt 2 xO) w (.pointer (some ⟨b,0,none⟩)) (Instance.mk f0 f1) (b::(b1)):=by
  have hm:zD (b1) w:=h1.m;refine⟨⟨b,0,_,rfl,rfl,_,_,(K.cell (0+0)).trans rfl,h0,(K.cell (0+1)).trans rfl,h1.r,rfl⟩,fun c hc=>?_⟩
  rcases List.mem_cons.1 hc with rfl | hc
  · exact K.lt
  · exact hm c hc
instance:FrC 3 qR:=⟨qR.fr,fun w f x bs h=>by
  obtain⟨h0,k0,h1,k1,h2,k2,hbs⟩:=h
  exact(bV (bV (bV tot0 h0 rfl) h1 rfl) h2 rfl)⟩
theorem qR.mk2 {w:World} {f0:Int} {f1:Int} {f2:Int}  (h0:xZ f0) (h1:xZ f1) (h2:xZ f2):Rd (zX 3 qR) w (.agg #[.int .i64 f0,.int .i64 f1,.int .i64 f2]) (ArcStep.mk f0 f1 f2) ([]):=
  ⟨qR.mk' (x:=⟨f0,f1,f2⟩) h0 h1 h2,zD.nil w⟩
theorem qR.blk {w:World} {T:TypeId} {b:Nat} {f0:Int} {f1:Int} {f2:Int}  (K:fS w b #[.int .i64 f0,.int .i64 f1,.int .i64 f2] T) (h0:xZ f0) (h1:xZ f1) (h2:xZ f2):Rd (Pt 3 qR) w (.pointer (some ⟨b,0,none⟩)) (ArcStep.mk f0 f1 f2) (b::([])):=by
  have hm:zD ([]) w:=zD.nil w;refine⟨⟨b,0,_,rfl,rfl,(K.cell (0+0)).trans rfl,h0,(K.cell (0+1)).trans rfl,h1,(K.cell (0+2)).trans rfl,h2,rfl⟩,fun c hc=>?_⟩
  rcases List.mem_cons.1 hc with rfl | hc
  · exact K.lt
  · exact hm c hc
instance:FrC 3 oQ:=⟨oQ.fr,fun w f x bs h=>by
  obtain⟨h0,k0,h1,k1,h2,k2,hbs⟩:=h
  exact(bV (bV (bV tot0 h0 rfl) h1 rfl) h2 rfl)⟩
theorem oQ.f0 {w:World} {y:PairStep}:∀ f bi,oQ w f y bi→∃ bj,xH w (fun j=>f (0+j)) y.i bj∧∀ c∈bj,c∈bi:=fun f bi h=>by
  obtain⟨h0,k0,h1,k1,h2,k2,hbs⟩:=h;exact⟨[],⟨by simpa using h0,k0,rfl⟩,fun c hc=>nomatch hc⟩
theorem oQ.f1 {w:World} {y:PairStep}:∀ f bi,oQ w f y bi→∃ bj,xH w (fun j=>f (1+j)) y.j bj∧∀ c∈bj,c∈bi:=fun f bi h=>by
  obtain⟨h0,k0,h1,k1,h2,k2,hbs⟩:=h;exact⟨[],⟨by simpa using h1,k1,rfl⟩,fun c hc=>nomatch hc⟩
theorem oQ.f2 {w:World} {y:PairStep}:∀ f bi,oQ w f y bi→∃ bj,xH w (fun j=>f (2+j)) y.through bj∧∀ c∈bj,c∈bi:=fun f bi h=>by
  obtain⟨h0,k0,h1,k1,h2,k2,hbs⟩:=h;exact⟨[],⟨by simpa using h2,k2,rfl⟩,fun c hc=>nomatch hc⟩
theorem oQ.rd {w:World} {v:Value} {x:PairStep} {bs:List Nat} (h:Rd (zX 3 oQ) w v x bs):v= .agg #[.int .i64 x.i,.int .i64 x.j,.int .i64 x.through]∧xZ x.i∧xZ x.j∧xZ x.through∧bs=[]:=by
  obtain⟨e,k0,k1,k2,hbs⟩:=oQ.open h.r;exact⟨e,k0,k1,k2,hbs⟩
theorem oQ.mk2 {w:World} {f0:Int} {f1:Int} {f2:Int}  (h0:xZ f0) (h1:xZ f1) (h2:xZ f2):Rd (zX 3 oQ) w (.agg #[.int .i64 f0,.int .i64 f1,.int .i64 f2]) (PairStep.mk f0 f1 f2) ([]):=
  ⟨oQ.mk' (x:=⟨f0,f1,f2⟩) h0 h1 h2,zD.nil w⟩
theorem oQ.blk {w:World} {T:TypeId} {b:Nat} {f0:Int} {f1:Int} {f2:Int}  (K:fS w b #[.int .i64 f0,.int .i64 f1,.int .i64 f2] T) (h0:xZ f0) (h1:xZ f1) (h2:xZ f2):Rd (Pt 3 oQ) w (.pointer (some ⟨b,0,none⟩)) (PairStep.mk f0 f1 f2) (b::([])):=by
  have hm:zD ([]) w:=zD.nil w;refine⟨⟨b,0,_,rfl,rfl,(K.cell (0+0)).trans rfl,h0,(K.cell (0+1)).trans rfl,h1,(K.cell (0+2)).trans rfl,h2,rfl⟩,fun c hc=>?_⟩
  rcases List.mem_cons.1 hc with rfl | hc
  · exact K.lt
  · exact hm c hc
instance:FrC 5 bS:=⟨bS.fr,fun w f x bs h=>by
  obtain⟨v1,v2,v3,v4,b1,b2,b3,b4,h0,k0,h1,k1,h2,k2,h3,k3,h4,k4,hbs⟩:=h
  exact(bV (bV (bV (bV (bV tot0 h0 rfl) h1 k1.one) h2 k2.one) h3 k3.one) h4 k4.one)⟩
theorem bS.mk2 {w:World} {f0:Int} {f1:List Int} {f2:List ArcStep} {f3:List PairStep} {f4:List Int} {v1:Value} {b1:List Nat} {v2:Value} {b2:List Nat} {v3:Value} {b3:List Nat} {v4:Value} {b4:List Nat} (h0:xZ f0) (h1:Rd (Sl 1 xH) w v1 f1 b1) (h2:Rd (Sl 3 qR) w v2 f2 b2) (h3:Rd (Sl 3 oQ) w v3 f3 b3) (h4:Rd (Sl 1 xH) w v4 f4 b4):Rd (zX 5 bS) w (.agg #[.int .i64 f0,v1,v2,v3,v4]) (Verdict.mk f0 f1 f2 f3 f4) (b1++b2++b3++b4):=
  ⟨bS.mk' (x:=⟨f0,f1,f2,f3,f4⟩) h0 h1.r h2.r h3.r h4.r,(((h1.m).append h2.m).append h3.m).append h4.m⟩
theorem bS.blk {w:World} {T:TypeId} {b:Nat} {f0:Int} {f1:List Int} {f2:List ArcStep} {f3:List PairStep} {f4:List Int} {v1:Value} {b1:List Nat} {v2:Value} {b2:List Nat} {v3:Value} {b3:List Nat} {v4:Value} {b4:List Nat} (K:fS w b #[.int .i64 f0,v1,v2,v3,v4] T) (h0:xZ f0) (h1:Rd (Sl 1 xH) w v1 f1 b1) (h2:Rd (Sl 3 qR) w v2 f2 b2) (h3:Rd (Sl 3 oQ) w v3 f3 b3) (h4:Rd (Sl 1 xH) w v4 f4 b4):Rd (Pt 5 bS) w (.pointer (some ⟨b,0,none⟩)) (Verdict.mk f0 f1 f2 f3 f4) (b::(b1++b2++b3++b4)):=by
  have hm:zD (b1++b2++b3++b4) w:=(((h1.m).append h2.m).append h3.m).append h4.m;refine⟨⟨b,0,_,rfl,rfl,_,_,_,_,_,_,_,_,(K.cell (0+0)).trans rfl,h0,(K.cell (0+1)).trans rfl,h1.r,(K.cell (0+2)).trans rfl,h2.r,(K.cell (0+3)).trans rfl,h3.r,(K.cell (0+4)).trans rfl,h4.r,rfl⟩,fun c hc=>?_⟩
  rcases List.mem_cons.1 hc with rfl | hc
  · exact K.lt
  · exact hm c hc
instance:FrC 2 zF:=⟨zF.fr,fun w f x bs h=>by
  obtain⟨v0,b0,h0,k0,h1,k1,hbs⟩:=h
  exact(bV (bV tot0 h0 k0.one) h1 rfl)⟩
theorem zF.rd {w:World} {v:Value} {x:Equation} {bs:List Nat} (h:Rd (zX 2 zF) w v x bs):∃ v0:Value,∃ b0:List Nat,v= .agg #[v0,.int .i64 x.right]∧Rd (Sl 1 xH) w v0 x.left b0∧xZ x.right∧bs=b0:=by
  obtain⟨v0,b0,e,k0,k1,hbs⟩:=zF.open h.r;exact⟨v0,b0,e,⟨k0,fun c hc=>h.m c (by rw[hbs];simp [hc])⟩,k1,hbs⟩
theorem zF.mk2 {w:World} {f0:List Int} {f1:Int} {v0:Value} {b0:List Nat} (h0:Rd (Sl 1 xH) w v0 f0 b0) (h1:xZ f1):Rd (zX 2 zF) w (.agg #[v0,.int .i64 f1]) (Equation.mk f0 f1) (b0):=
  ⟨zF.mk' (x:=⟨f0,f1⟩) h0.r h1,h0.m⟩
theorem zF.blk {w:World} {T:TypeId} {b:Nat} {f0:List Int} {f1:Int} {v0:Value} {b0:List Nat} (K:fS w b #[v0,.int .i64 f1] T) (h0:Rd (Sl 1 xH) w v0 f0 b0) (h1:xZ f1):Rd (Pt 2 zF) w (.pointer (some ⟨b,0,none⟩)) (Equation.mk f0 f1) (b::(b0)):=by
  have hm:zD (b0) w:=h0.m;refine⟨⟨b,0,_,rfl,rfl,_,_,(K.cell (0+0)).trans rfl,h0.r,(K.cell (0+1)).trans rfl,h1,rfl⟩,fun c hc=>?_⟩
  rcases List.mem_cons.1 hc with rfl | hc
  · exact K.lt
  · exact hm c hc
instance:FrC 4 RLine:=⟨RLine.fr,fun w f x bs h=>by
  obtain⟨h0,k0,h1,k1,h2,k2,h3,k3,hbs⟩:=h
  exact(bV (bV (bV (bV tot0 h0 rfl) h1 rfl) h2 rfl) h3 rfl)⟩
theorem RLine.mk2 {w:World} {f0:Int} {f1:Int} {f2:Int} {f3:Int}  (h0:xZ f0) (h1:xZ f1) (h2:xZ f2) (h3:xZ f3):Rd (zX 4 RLine) w (.agg #[.int .i64 f0,.int .i64 f1,.int .i64 f2,.int .i64 f3]) (Line.mk f0 f1 f2 f3) ([]):=
  ⟨RLine.mk' (x:=⟨f0,f1,f2,f3⟩) h0 h1 h2 h3,zD.nil w⟩
theorem RLine.blk {w:World} {T:TypeId} {b:Nat} {f0:Int} {f1:Int} {f2:Int} {f3:Int}  (K:fS w b #[.int .i64 f0,.int .i64 f1,.int .i64 f2,.int .i64 f3] T) (h0:xZ f0) (h1:xZ f1) (h2:xZ f2) (h3:xZ f3):Rd (Pt 4 RLine) w (.pointer (some ⟨b,0,none⟩)) (Line.mk f0 f1 f2 f3) (b::([])):=by
  have hm:zD ([]) w:=zD.nil w;refine⟨⟨b,0,_,rfl,rfl,(K.cell (0+0)).trans rfl,h0,(K.cell (0+1)).trans rfl,h1,(K.cell (0+2)).trans rfl,h2,(K.cell (0+3)).trans rfl,h3,rfl⟩,fun c hc=>?_⟩
  rcases List.mem_cons.1 hc with rfl | hc
  · exact K.lt
  · exact hm c hc
instance:FrC 2 bG:=⟨bG.fr,fun w f x bs h=>by
  obtain⟨h0,k0,h1,k1,hbs⟩:=h
  exact(bV (bV tot0 h0 rfl) h1 rfl)⟩
theorem bG.mk2 {w:World} {f0:Int} {f1:Int}  (h0:xZ f0) (h1:xZ f1):Rd (zX 2 bG) w (.agg #[.int .i64 f0,.int .i64 f1]) (Literal.mk f0 f1) ([]):=
  ⟨bG.mk' (x:=⟨f0,f1⟩) h0 h1,zD.nil w⟩
theorem bG.blk {w:World} {T:TypeId} {b:Nat} {f0:Int} {f1:Int}  (K:fS w b #[.int .i64 f0,.int .i64 f1] T) (h0:xZ f0) (h1:xZ f1):Rd (Pt 2 bG) w (.pointer (some ⟨b,0,none⟩)) (Literal.mk f0 f1) (b::([])):=by
  have hm:zD ([]) w:=zD.nil w;refine⟨⟨b,0,_,rfl,rfl,(K.cell (0+0)).trans rfl,h0,(K.cell (0+1)).trans rfl,h1,rfl⟩,fun c hc=>?_⟩
  rcases List.mem_cons.1 hc with rfl | hc
  · exact K.lt
  · exact hm c hc
instance:FrC 1 bT:=⟨bT.fr,fun w f x bs h=>by
  obtain⟨v0,b0,h0,k0,hbs⟩:=h
  exact(bV tot0 h0 k0.one)⟩
theorem bT.mk2 {w:World} {f0:List Formula} {v0:Value} {b0:List Nat} (h0:Rd (Sl 3 kP) w v0 f0 b0):Rd (zX 1 bT) w (.agg #[v0]) (Gadgets.mk f0) (b0):=
  ⟨bT.mk' (x:=⟨f0⟩) h0.r,h0.m⟩
theorem bT.blk {w:World} {T:TypeId} {b:Nat} {f0:List Formula} {v0:Value} {b0:List Nat} (K:fS w b #[v0] T) (h0:Rd (Sl 3 kP) w v0 f0 b0):Rd (Pt 1 bT) w (.pointer (some ⟨b,0,none⟩)) (Gadgets.mk f0) (b::(b0)):=by
  have hm:zD (b0) w:=h0.m;refine⟨⟨b,0,_,rfl,rfl,_,_,(K.cell (0+0)).trans rfl,h0.r,rfl⟩,fun c hc=>?_⟩
  rcases List.mem_cons.1 hc with rfl | hc
  · exact K.lt
  · exact hm c hc
instance:FrC 3 RDeed:=⟨RDeed.fr,fun w f x bs h=>by
  obtain⟨h0,k0,h1,k1,h2,k2,hbs⟩:=h
  exact(bV (bV (bV tot0 h0 rfl) h1 rfl) h2 rfl)⟩
theorem RDeed.mk2 {w:World} {f0:Int} {f1:Int} {f2:Int}  (h0:xZ f0) (h1:xZ f1) (h2:xZ f2):Rd (zX 3 RDeed) w (.agg #[.int .i64 f0,.int .i64 f1,.int .i64 f2]) (Deed.mk f0 f1 f2) ([]):=
  ⟨RDeed.mk' (x:=⟨f0,f1,f2⟩) h0 h1 h2,zD.nil w⟩
theorem RDeed.blk {w:World} {T:TypeId} {b:Nat} {f0:Int} {f1:Int} {f2:Int}  (K:fS w b #[.int .i64 f0,.int .i64 f1,.int .i64 f2] T) (h0:xZ f0) (h1:xZ f1) (h2:xZ f2):Rd (Pt 3 RDeed) w (.pointer (some ⟨b,0,none⟩)) (Deed.mk f0 f1 f2) (b::([])):=by
  have hm:zD ([]) w:=zD.nil w;refine⟨⟨b,0,_,rfl,rfl,(K.cell (0+0)).trans rfl,h0,(K.cell (0+1)).trans rfl,h1,(K.cell (0+2)).trans rfl,h2,rfl⟩,fun c hc=>?_⟩
  rcases List.mem_cons.1 hc with rfl | hc
  · exact K.lt
  · exact hm c hc
theorem cell1I {w:World} {T:TypeId} {b:Nat} {x:Int} (K:fS w b #[.int .i64 x] T) (h:xZ x):Rd (Pt 1 xH) w (.pointer (some ⟨b,0,none⟩)) x [b]:=
  ⟨⟨b,0,[],rfl,rfl,(K.cell (0+0)).trans rfl,h,rfl⟩,fun c hc=>by rw[List.mem_singleton] at hc;subst hc;exact K.lt⟩
theorem cell1S {α:Type} {sz:Nat} {R:ER α} {w:World} {T:TypeId} {b:Nat} {v:Value} {x:List α} {bs:List Nat} (K:fS w b #[v] T) (h:Rd (Sl sz R) w v x bs):Rd (Pt 1 (vO sz R)) w (.pointer (some ⟨b,0,none⟩)) x (b::bs):=
  ⟨⟨b,0,_,rfl,rfl,v,(K.cell (0+0)).trans rfl,h.r⟩,fun c hc=>by
    rcases List.mem_cons.1 hc with rfl | hc
    · exact K.lt
    · exact h.m c hc⟩
end Go.Proofs.YtgnfibiaaipibaaGreat
