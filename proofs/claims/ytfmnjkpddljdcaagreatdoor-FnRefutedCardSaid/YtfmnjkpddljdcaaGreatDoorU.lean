import Derived.Test.YtfmnjkpddljdcaaGreatDoorH
import Derived.Test.YtfmnjkpddljdcaaGreatDoorT
namespace Go.Proofs.YtfmnjkpddljdcaaGreatDoor
set_option linter.unusedVariables false
set_option linter.unusedSimpArgs false
open Go.RowKit
theorem dJ {n:Nat} {f:Nat→Option Value} (h:∀ j,j<n→∃ v:Value,f j=some v∧v.oneCell'=true) {u:Value} (e:f n=some u) (hu:u.oneCell'=true):∀ j,j<n+1→∃ v:Value,f j=some v∧v.oneCell'=true:=fun j hj=>by
  by_cases hjn:j=n
  · subst hjn;exact⟨u,e,hu⟩
  · exact h j (by omega)
theorem sG {f:Nat→Option Value}:∀ j,j<0→∃ v:Value,f j=some v∧v.oneCell'=true:=fun j hj=>by omega
theorem Sl.one {α:Type} {sz:Nat} {R:ER α} {w:World} {v:Value} {l:List α} {bs:List Nat} (h:Sl sz R w v l bs):v.oneCell'=true:=by obtain⟨a,c,rfl⟩:=h.val;rfl
instance:FrC 2 vG:=⟨vG.fr,fun w f x bs h=>by
  obtain⟨v1,b1,h0,k0,h1,k1,hbs⟩:=h
  exact(dJ (dJ sG h0 rfl) h1 k1.one)⟩
theorem vG.f0 {w:World} {y:Rel}:∀ f bi,vG w f y bi→∃ bj,xM w (fun j=>f (0+j)) y.arity bj∧∀ c∈bj,c∈bi:=fun f bi h=>by
  obtain⟨v1,b1,h0,k0,h1,k1,hbs⟩:=h;exact⟨[],⟨by simpa using h0,k0,rfl⟩,fun c hc=>nomatch hc⟩
theorem vG.f1 {w:World} {y:Rel}:∀ f bi,vG w f y bi→∃ bj,(vS 1 eG) w (fun j=>f (1+j)) y.tuples bj∧∀ c∈bj,c∈bi:=fun f bi h=>by
  obtain⟨v1,b1,h0,k0,h1,k1,hbs⟩:=h;exact⟨b1,⟨v1,by simpa using h1,k1⟩,fun c hc=>by rw[hbs];simp [hc]⟩
theorem vG.rd {w:World} {v:Value} {x:Rel} {bs:List Nat} (h:Rd (aY 2 vG) w v x bs):∃ v1:Value,∃ b1:List Nat,v= .agg #[.int .i64 x.arity,v1]∧xS x.arity∧Rd (Sl 1 eG) w v1 x.tuples b1∧bs=b1:=by
  obtain⟨v1,b1,e,k0,k1,hbs⟩:=vG.open h.r;exact⟨v1,b1,e,k0,⟨k1,fun c hc=>h.m c (by rw[hbs];simp [hc])⟩,hbs⟩
theorem vG.mk2 {w:World} {f0:Int} {f1:List (List Int)} {v1:Value} {b1:List Nat} (h0:xS f0) (h1:Rd (Sl 1 eG) w v1 f1 b1):Rd (aY 2 vG) w (.agg #[.int .i64 f0,v1]) (Rel.mk f0 f1) (b1):=
  ⟨vG.mk' (x:=⟨f0,f1⟩) h0 h1.r,h1.m⟩
theorem vG.blk {w:World} {T:TypeId} {b:Nat} {f0:Int} {f1:List (List Int)} {v1:Value} {b1:List Nat} (K:gM w b #[.int .i64 f0,v1] T) (h0:xS f0) (h1:Rd (Sl 1 eG) w v1 f1 b1):Rd (Pt 2 vG) w (.pointer (some ⟨b,0,none⟩)) (Rel.mk f0 f1) (b::(b1)):=by
  have hm:kD (b1) w:=h1.m;refine⟨⟨b,0,_,rfl,rfl,_,_,(K.cell (0+0)).trans rfl,h0,(K.cell (0+1)).trans rfl,h1.r,rfl⟩,fun c hc=>?_⟩
  rcases List.mem_cons.1 hc with rfl | hc
  · exact K.lt
  · exact hm c hc
instance:FrC 2 xL:=⟨xL.fr,fun w f x bs h=>by
  obtain⟨v1,b1,h0,k0,h1,k1,hbs⟩:=h
  exact(dJ (dJ sG h0 rfl) h1 k1.one)⟩
theorem xL.f0 {w:World} {y:Template}:∀ f bi,xL w f y bi→∃ bj,xM w (fun j=>f (0+j)) y.size bj∧∀ c∈bj,c∈bi:=fun f bi h=>by
  obtain⟨v1,b1,h0,k0,h1,k1,hbs⟩:=h;exact⟨[],⟨by simpa using h0,k0,rfl⟩,fun c hc=>nomatch hc⟩
theorem xL.f1 {w:World} {y:Template}:∀ f bi,xL w f y bi→∃ bj,(vS 2 vG) w (fun j=>f (1+j)) y.rels bj∧∀ c∈bj,c∈bi:=fun f bi h=>by
  obtain⟨v1,b1,h0,k0,h1,k1,hbs⟩:=h;exact⟨b1,⟨v1,by simpa using h1,k1⟩,fun c hc=>by rw[hbs];simp [hc]⟩
theorem xL.rd {w:World} {v:Value} {x:Template} {bs:List Nat} (h:Rd (aY 2 xL) w v x bs):∃ v1:Value,∃ b1:List Nat,v= .agg #[.int .i64 x.size,v1]∧xS x.size∧Rd (Sl 2 vG) w v1 x.rels b1∧bs=b1:=by
  obtain⟨v1,b1,e,k0,k1,hbs⟩:=xL.open h.r;exact⟨v1,b1,e,k0,⟨k1,fun c hc=>h.m c (by rw[hbs];simp [hc])⟩,hbs⟩
theorem xL.mk2 {w:World} {f0:Int} {f1:List Rel} {v1:Value} {b1:List Nat} (h0:xS f0) (h1:Rd (Sl 2 vG) w v1 f1 b1):Rd (aY 2 xL) w (.agg #[.int .i64 f0,v1]) (Template.mk f0 f1) (b1):=
  ⟨xL.mk' (x:=⟨f0,f1⟩) h0 h1.r,h1.m⟩
theorem xL.blk {w:World} {T:TypeId} {b:Nat} {f0:Int} {f1:List Rel} {v1:Value} {b1:List Nat} (K:gM w b #[.int .i64 f0,v1] T) (h0:xS f0) (h1:Rd (Sl 2 vG) w v1 f1 b1):Rd (Pt 2 xL) w (.pointer (some ⟨b,0,none⟩)) (Template.mk f0 f1) (b::(b1)):=by
  have hm:kD (b1) w:=h1.m;refine⟨⟨b,0,_,rfl,rfl,_,_,(K.cell (0+0)).trans rfl,h0,(K.cell (0+1)).trans rfl,h1.r,rfl⟩,fun c hc=>?_⟩
  rcases List.mem_cons.1 hc with rfl | hc
  · exact K.lt
  · exact hm c hc
instance:FrC 2 ROp:=⟨ROp.fr,fun w f x bs h=>by
  obtain⟨v1,b1,h0,k0,h1,k1,hbs⟩:=h
  exact(dJ (dJ sG h0 rfl) h1 k1.one)⟩
theorem ROp.f0 {w:World} {y:Op}:∀ f bi,ROp w f y bi→∃ bj,xM w (fun j=>f (0+j)) y.arity bj∧∀ c∈bj,c∈bi:=fun f bi h=>by
  obtain⟨v1,b1,h0,k0,h1,k1,hbs⟩:=h;exact⟨[],⟨by simpa using h0,k0,rfl⟩,fun c hc=>nomatch hc⟩
theorem ROp.mk2 {w:World} {f0:Int} {f1:List Int} {v1:Value} {b1:List Nat} (h0:xS f0) (h1:Rd (Sl 1 xM) w v1 f1 b1):Rd (aY 2 ROp) w (.agg #[.int .i64 f0,v1]) (Op.mk f0 f1) (b1):=
  ⟨ROp.mk' (x:=⟨f0,f1⟩) h0 h1.r,h1.m⟩
theorem ROp.blk {w:World} {T:TypeId} {b:Nat} {f0:Int} {f1:List Int} {v1:Value} {b1:List Nat} (K:gM w b #[.int .i64 f0,v1] T) (h0:xS f0) (h1:Rd (Sl 1 xM) w v1 f1 b1):Rd (Pt 2 ROp) w (.pointer (some ⟨b,0,none⟩)) (Op.mk f0 f1) (b::(b1)):=by
  have hm:kD (b1) w:=h1.m;refine⟨⟨b,0,_,rfl,rfl,_,_,(K.cell (0+0)).trans rfl,h0,(K.cell (0+1)).trans rfl,h1.r,rfl⟩,fun c hc=>?_⟩
  rcases List.mem_cons.1 hc with rfl | hc
  · exact K.lt
  · exact hm c hc
instance:FrC 2 kU:=⟨kU.fr,fun w f x bs h=>by
  obtain⟨v1,b1,h0,k0,h1,k1,hbs⟩:=h
  exact(dJ (dJ sG h0 rfl) h1 k1.one)⟩
theorem kU.f0 {w:World} {y:Atom}:∀ f bi,kU w f y bi→∃ bj,xM w (fun j=>f (0+j)) y.rel bj∧∀ c∈bj,c∈bi:=fun f bi h=>by
  obtain⟨v1,b1,h0,k0,h1,k1,hbs⟩:=h;exact⟨[],⟨by simpa using h0,k0,rfl⟩,fun c hc=>nomatch hc⟩
theorem kU.rd {w:World} {v:Value} {x:Atom} {bs:List Nat} (h:Rd (aY 2 kU) w v x bs):∃ v1:Value,∃ b1:List Nat,v= .agg #[.int .i64 x.rel,v1]∧xS x.rel∧Rd (Sl 1 xM) w v1 x.args b1∧bs=b1:=by
  obtain⟨v1,b1,e,k0,k1,hbs⟩:=kU.open h.r;exact⟨v1,b1,e,k0,⟨k1,fun c hc=>h.m c (by rw[hbs];simp [hc])⟩,hbs⟩
theorem kU.mk2 {w:World} {f0:Int} {f1:List Int} {v1:Value} {b1:List Nat} (h0:xS f0) (h1:Rd (Sl 1 xM) w v1 f1 b1):Rd (aY 2 kU) w (.agg #[.int .i64 f0,v1]) (Atom.mk f0 f1) (b1):=
  ⟨kU.mk' (x:=⟨f0,f1⟩) h0 h1.r,h1.m⟩
theorem kU.blk {w:World} {T:TypeId} {b:Nat} {f0:Int} {f1:List Int} {v1:Value} {b1:List Nat} (K:gM w b #[.int .i64 f0,v1] T) (h0:xS f0) (h1:Rd (Sl 1 xM) w v1 f1 b1):Rd (Pt 2 kU) w (.pointer (some ⟨b,0,none⟩)) (Atom.mk f0 f1) (b::(b1)):=by
  have hm:kD (b1) w:=h1.m;refine⟨⟨b,0,_,rfl,rfl,_,_,(K.cell (0+0)).trans rfl,h0,(K.cell (0+1)).trans rfl,h1.r,rfl⟩,fun c hc=>?_⟩
  rcases List.mem_cons.1 hc with rfl | hc
  · exact K.lt
  · exact hm c hc
instance:FrC 3 aL:=⟨aL.fr,fun w f x bs h=>by
  obtain⟨v2,b2,h0,k0,h1,k1,h2,k2,hbs⟩:=h
  exact(dJ (dJ (dJ sG h0 rfl) h1 rfl) h2 k2.one)⟩
theorem aL.f0 {w:World} {y:Formula}:∀ f bi,aL w f y bi→∃ bj,xM w (fun j=>f (0+j)) y.free bj∧∀ c∈bj,c∈bi:=fun f bi h=>by
  obtain⟨v2,b2,h0,k0,h1,k1,h2,k2,hbs⟩:=h;exact⟨[],⟨by simpa using h0,k0,rfl⟩,fun c hc=>nomatch hc⟩
theorem aL.mk2 {w:World} {f0:Int} {f1:Int} {f2:List Atom} {v2:Value} {b2:List Nat} (h0:xS f0) (h1:xS f1) (h2:Rd (Sl 2 kU) w v2 f2 b2):Rd (aY 3 aL) w (.agg #[.int .i64 f0,.int .i64 f1,v2]) (Formula.mk f0 f1 f2) (b2):=
  ⟨aL.mk' (x:=⟨f0,f1,f2⟩) h0 h1 h2.r,h2.m⟩
theorem aL.blk {w:World} {T:TypeId} {b:Nat} {f0:Int} {f1:Int} {f2:List Atom} {v2:Value} {b2:List Nat} (K:gM w b #[.int .i64 f0,.int .i64 f1,v2] T) (h0:xS f0) (h1:xS f1) (h2:Rd (Sl 2 kU) w v2 f2 b2):Rd (Pt 3 aL) w (.pointer (some ⟨b,0,none⟩)) (Formula.mk f0 f1 f2) (b::(b2)):=by
  have hm:kD (b2) w:=h2.m;refine⟨⟨b,0,_,rfl,rfl,_,_,(K.cell (0+0)).trans rfl,h0,(K.cell (0+1)).trans rfl,h1,(K.cell (0+2)).trans rfl,h2.r,rfl⟩,fun c hc=>?_⟩
  rcases List.mem_cons.1 hc with rfl | hc
  · exact K.lt
  · exact hm c hc
instance:FrC 2 qZ:=⟨qZ.fr,fun w f x bs h=>by
  obtain⟨v1,b1,h0,k0,h1,k1,hbs⟩:=h
  exact(dJ (dJ sG h0 rfl) h1 k1.one)⟩
theorem qZ.f0 {w:World} {y:Con}:∀ f bi,qZ w f y bi→∃ bj,xM w (fun j=>f (0+j)) y.rel bj∧∀ c∈bj,c∈bi:=fun f bi h=>by
  obtain⟨v1,b1,h0,k0,h1,k1,hbs⟩:=h;exact⟨[],⟨by simpa using h0,k0,rfl⟩,fun c hc=>nomatch hc⟩
theorem qZ.f1 {w:World} {y:Con}:∀ f bi,qZ w f y bi→∃ bj,(vS 1 xM) w (fun j=>f (1+j)) y.scope bj∧∀ c∈bj,c∈bi:=fun f bi h=>by
  obtain⟨v1,b1,h0,k0,h1,k1,hbs⟩:=h;exact⟨b1,⟨v1,by simpa using h1,k1⟩,fun c hc=>by rw[hbs];simp [hc]⟩
theorem qZ.rd {w:World} {v:Value} {x:Con} {bs:List Nat} (h:Rd (aY 2 qZ) w v x bs):∃ v1:Value,∃ b1:List Nat,v= .agg #[.int .i64 x.rel,v1]∧xS x.rel∧Rd (Sl 1 xM) w v1 x.scope b1∧bs=b1:=by
  obtain⟨v1,b1,e,k0,k1,hbs⟩:=qZ.open h.r;exact⟨v1,b1,e,k0,⟨k1,fun c hc=>h.m c (by rw[hbs];simp [hc])⟩,hbs⟩
theorem qZ.mk2 {w:World} {f0:Int} {f1:List Int} {v1:Value} {b1:List Nat} (h0:xS f0) (h1:Rd (Sl 1 xM) w v1 f1 b1):Rd (aY 2 qZ) w (.agg #[.int .i64 f0,v1]) (Con.mk f0 f1) (b1):=
  ⟨qZ.mk' (x:=⟨f0,f1⟩) h0 h1.r,h1.m⟩
theorem qZ.blk {w:World} {T:TypeId} {b:Nat} {f0:Int} {f1:List Int} {v1:Value} {b1:List Nat} (K:gM w b #[.int .i64 f0,v1] T) (h0:xS f0) (h1:Rd (Sl 1 xM) w v1 f1 b1):Rd (Pt 2 qZ) w (.pointer (some ⟨b,0,none⟩)) (Con.mk f0 f1) (b::(b1)):=by
  have hm:kD (b1) w:=h1.m;refine⟨⟨b,0,_,rfl,rfl,_,_,(K.cell (0+0)).trans rfl,h0,(K.cell (0+1)).trans rfl,h1.r,rfl⟩,fun c hc=>?_⟩
  rcases List.mem_cons.1 hc with rfl | hc
  · exact K.lt
  · exact hm c hc
instance:FrC 2 xO:=⟨xO.fr,fun w f x bs h=>by
  obtain⟨v1,b1,h0,k0,h1,k1,hbs⟩:=h
  exact(dJ (dJ sG h0 rfl) h1 k1.one)⟩
theorem xO.f0 {w:World} {y:Instance}:∀ f bi,xO w f y bi→∃ bj,xM w (fun j=>f (0+j)) y.vars bj∧∀ c∈bj,c∈bi:=fun f bi h=>by
  obtain⟨v1,b1,h0,k0,h1,k1,hbs⟩:=h;exact⟨[],⟨by simpa using h0,k0,rfl⟩,fun c hc=>nomatch hc⟩
theorem xO.f1 {w:World} {y:Instance}:∀ f bi,xO w f y bi→∃ bj,(vS 2 qZ) w (fun j=>f (1+j)) y.cons bj∧∀ c∈bj,c∈bi:=fun f bi h=>by
  obtain⟨v1,b1,h0,k0,h1,k1,hbs⟩:=h;exact⟨b1,⟨v1,by simpa using h1,k1⟩,fun c hc=>by rw[hbs];simp [hc]⟩
theorem xO.rd {w:World} {v:Value} {x:Instance} {bs:List Nat} (h:Rd (aY 2 xO) w v x bs):∃ v1:Value,∃ b1:List Nat,v= .agg #[.int .i64 x.vars,v1]∧xS x.vars∧Rd (Sl 2 qZ) w v1 x.cons b1∧bs=b1:=by
  obtain⟨v1,b1,e,k0,k1,hbs⟩:=xO.open h.r;exact⟨v1,b1,e,k0,⟨k1,fun c hc=>h.m c (by rw[hbs];simp [hc])⟩,hbs⟩
theorem xO.mk2 {w:World} {f0:Int} {f1:List Con} {v1:Value} {b1:List Nat} (h0:xS f0) (h1:Rd (Sl 2 qZ) w v1 f1 b1):Rd (aY 2 xO) w (.agg #[.int .i64 f0,v1]) (Instance.mk f0 f1) (b1):=
  ⟨xO.mk' (x:=⟨f0,f1⟩) h0 h1.r,h1.m⟩
theorem xO.blk {w:World} {T:TypeId} {b:Nat} {f0:Int} {f1:List Con} {v1:Value} {b1:List Nat} (K:gM w b #[.int .i64 f0,v1] T) (h0:xS f0) (h1:Rd (Sl 2 qZ) w v1 f1 b1):Rd (Pt 2 xO) w (.pointer (some ⟨b,0,none⟩)) (Instance.mk f0 f1) (b::(b1)):=by
  have hm:kD (b1) w:=h1.m;refine⟨⟨b,0,_,rfl,rfl,_,_,(K.cell (0+0)).trans rfl,h0,(K.cell (0+1)).trans rfl,h1.r,rfl⟩,fun c hc=>?_⟩
  rcases List.mem_cons.1 hc with rfl | hc
  · exact K.lt
  · exact hm c hc
instance:FrC 3 qR:=⟨qR.fr,fun w f x bs h=>by
  obtain⟨h0,k0,h1,k1,h2,k2,hbs⟩:=h
  exact(dJ (dJ (dJ sG h0 rfl) h1 rfl) h2 rfl)⟩
theorem qR.f0 {w:World} {y:ArcStep}:∀ f bi,qR w f y bi→∃ bj,xM w (fun j=>f (0+j)) y.var bj∧∀ c∈bj,c∈bi:=fun f bi h=>by
  obtain⟨h0,k0,h1,k1,h2,k2,hbs⟩:=h;exact⟨[],⟨by simpa using h0,k0,rfl⟩,fun c hc=>nomatch hc⟩
theorem qR.f1 {w:World} {y:ArcStep}:∀ f bi,qR w f y bi→∃ bj,xM w (fun j=>f (1+j)) y.value bj∧∀ c∈bj,c∈bi:=fun f bi h=>by
  obtain⟨h0,k0,h1,k1,h2,k2,hbs⟩:=h;exact⟨[],⟨by simpa using h1,k1,rfl⟩,fun c hc=>nomatch hc⟩
theorem qR.f2 {w:World} {y:ArcStep}:∀ f bi,qR w f y bi→∃ bj,xM w (fun j=>f (2+j)) y.con bj∧∀ c∈bj,c∈bi:=fun f bi h=>by
  obtain⟨h0,k0,h1,k1,h2,k2,hbs⟩:=h;exact⟨[],⟨by simpa using h2,k2,rfl⟩,fun c hc=>nomatch hc⟩
theorem qR.rd {w:World} {v:Value} {x:ArcStep} {bs:List Nat} (h:Rd (aY 3 qR) w v x bs):v= .agg #[.int .i64 x.var,.int .i64 x.value,.int .i64 x.con]∧xS x.var∧xS x.value∧xS x.con∧bs=[]:=by
  obtain⟨e,k0,k1,k2,hbs⟩:=qR.open h.r;exact⟨e,k0,k1,k2,hbs⟩
theorem qR.mk2 {w:World} {f0:Int} {f1:Int} {f2:Int}  (h0:xS f0) (h1:xS f1) (h2:xS f2):Rd (aY 3 qR) w (.agg #[.int .i64 f0,.int .i64 f1,.int .i64 f2]) (ArcStep.mk f0 f1 f2) ([]):=
  ⟨qR.mk' (x:=⟨f0,f1,f2⟩) h0 h1 h2,kD.nil w⟩
theorem qR.blk {w:World} {T:TypeId} {b:Nat} {f0:Int} {f1:Int} {f2:Int}  (K:gM w b #[.int .i64 f0,.int .i64 f1,.int .i64 f2] T) (h0:xS f0) (h1:xS f1) (h2:xS f2):Rd (Pt 3 qR) w (.pointer (some ⟨b,0,none⟩)) (ArcStep.mk f0 f1 f2) (b::([])):=by
  have hm:kD ([]) w:=kD.nil w;refine⟨⟨b,0,_,rfl,rfl,(K.cell (0+0)).trans rfl,h0,(K.cell (0+1)).trans rfl,h1,(K.cell (0+2)).trans rfl,h2,rfl⟩,fun c hc=>?_⟩
  rcases List.mem_cons.1 hc with rfl | hc
  · exact K.lt
  · exact hm c hc
instance:FrC 3 kX:=⟨kX.fr,fun w f x bs h=>by
  obtain⟨h0,k0,h1,k1,h2,k2,hbs⟩:=h
  exact(dJ (dJ (dJ sG h0 rfl) h1 rfl) h2 rfl)⟩
theorem kX.f0 {w:World} {y:PairStep}:∀ f bi,kX w f y bi→∃ bj,xM w (fun j=>f (0+j)) y.i bj∧∀ c∈bj,c∈bi:=fun f bi h=>by
  obtain⟨h0,k0,h1,k1,h2,k2,hbs⟩:=h;exact⟨[],⟨by simpa using h0,k0,rfl⟩,fun c hc=>nomatch hc⟩
theorem kX.mk2 {w:World} {f0:Int} {f1:Int} {f2:Int}  (h0:xS f0) (h1:xS f1) (h2:xS f2):Rd (aY 3 kX) w (.agg #[.int .i64 f0,.int .i64 f1,.int .i64 f2]) (PairStep.mk f0 f1 f2) ([]):=
  ⟨kX.mk' (x:=⟨f0,f1,f2⟩) h0 h1 h2,kD.nil w⟩
theorem kX.blk {w:World} {T:TypeId} {b:Nat} {f0:Int} {f1:Int} {f2:Int}  (K:gM w b #[.int .i64 f0,.int .i64 f1,.int .i64 f2] T) (h0:xS f0) (h1:xS f1) (h2:xS f2):Rd (Pt 3 kX) w (.pointer (some ⟨b,0,none⟩)) (PairStep.mk f0 f1 f2) (b::([])):=by
  have hm:kD ([]) w:=kD.nil w;refine⟨⟨b,0,_,rfl,rfl,(K.cell (0+0)).trans rfl,h0,(K.cell (0+1)).trans rfl,h1,(K.cell (0+2)).trans rfl,h2,rfl⟩,fun c hc=>?_⟩
  rcases List.mem_cons.1 hc with rfl | hc
  · exact K.lt
  · exact hm c hc
instance:FrC 5 cV:=⟨cV.fr,fun w f x bs h=>by
  obtain⟨v1,v2,v3,v4,b1,b2,b3,b4,h0,k0,h1,k1,h2,k2,h3,k3,h4,k4,hbs⟩:=h
  exact(dJ (dJ (dJ (dJ (dJ sG h0 rfl) h1 k1.one) h2 k2.one) h3 k3.one) h4 k4.one)⟩
theorem cV.f0 {w:World} {y:Verdict}:∀ f bi,cV w f y bi→∃ bj,xM w (fun j=>f (0+j)) y.kind bj∧∀ c∈bj,c∈bi:=fun f bi h=>by
  obtain⟨v1,v2,v3,v4,b1,b2,b3,b4,h0,k0,h1,k1,h2,k2,h3,k3,h4,k4,hbs⟩:=h;exact⟨[],⟨by simpa using h0,k0,rfl⟩,fun c hc=>nomatch hc⟩
theorem cV.mk2 {w:World} {f0:Int} {f1:List Int} {f2:List ArcStep} {f3:List PairStep} {f4:List Int} {v1:Value} {b1:List Nat} {v2:Value} {b2:List Nat} {v3:Value} {b3:List Nat} {v4:Value} {b4:List Nat} (h0:xS f0) (h1:Rd (Sl 1 xM) w v1 f1 b1) (h2:Rd (Sl 3 qR) w v2 f2 b2) (h3:Rd (Sl 3 kX) w v3 f3 b3) (h4:Rd (Sl 1 xM) w v4 f4 b4):Rd (aY 5 cV) w (.agg #[.int .i64 f0,v1,v2,v3,v4]) (Verdict.mk f0 f1 f2 f3 f4) (b1++b2++b3++b4):=
  ⟨cV.mk' (x:=⟨f0,f1,f2,f3,f4⟩) h0 h1.r h2.r h3.r h4.r,(((h1.m).append h2.m).append h3.m).append h4.m⟩
theorem cV.blk {w:World} {T:TypeId} {b:Nat} {f0:Int} {f1:List Int} {f2:List ArcStep} {f3:List PairStep} {f4:List Int} {v1:Value} {b1:List Nat} {v2:Value} {b2:List Nat} {v3:Value} {b3:List Nat} {v4:Value} {b4:List Nat} (K:gM w b #[.int .i64 f0,v1,v2,v3,v4] T) (h0:xS f0) (h1:Rd (Sl 1 xM) w v1 f1 b1) (h2:Rd (Sl 3 qR) w v2 f2 b2) (h3:Rd (Sl 3 kX) w v3 f3 b3) (h4:Rd (Sl 1 xM) w v4 f4 b4):Rd (Pt 5 cV) w (.pointer (some ⟨b,0,none⟩)) (Verdict.mk f0 f1 f2 f3 f4) (b::(b1++b2++b3++b4)):=by
  have hm:kD (b1++b2++b3++b4) w:=(((h1.m).append h2.m).append h3.m).append h4.m;refine⟨⟨b,0,_,rfl,rfl,_,_,_,_,_,_,_,_,(K.cell (0+0)).trans rfl,h0,(K.cell (0+1)).trans rfl,h1.r,(K.cell (0+2)).trans rfl,h2.r,(K.cell (0+3)).trans rfl,h3.r,(K.cell (0+4)).trans rfl,h4.r,rfl⟩,fun c hc=>?_⟩
  rcases List.mem_cons.1 hc with rfl | hc
  · exact K.lt
  · exact hm c hc
instance:FrC 2 bV:=⟨bV.fr,fun w f x bs h=>by
  obtain⟨v0,b0,h0,k0,h1,k1,hbs⟩:=h
  exact(dJ (dJ sG h0 k0.one) h1 rfl)⟩
theorem bV.f0 {w:World} {y:Equation}:∀ f bi,bV w f y bi→∃ bj,(vS 1 xM) w (fun j=>f (0+j)) y.left bj∧∀ c∈bj,c∈bi:=fun f bi h=>by
  obtain⟨v0,b0,h0,k0,h1,k1,hbs⟩:=h;exact⟨b0,⟨v0,by simpa using h0,k0⟩,fun c hc=>by rw[hbs];simp [hc]⟩
theorem bV.mk2 {w:World} {f0:List Int} {f1:Int} {v0:Value} {b0:List Nat} (h0:Rd (Sl 1 xM) w v0 f0 b0) (h1:xS f1):Rd (aY 2 bV) w (.agg #[v0,.int .i64 f1]) (Equation.mk f0 f1) (b0):=
  ⟨bV.mk' (x:=⟨f0,f1⟩) h0.r h1,h0.m⟩
theorem bV.blk {w:World} {T:TypeId} {b:Nat} {f0:List Int} {f1:Int} {v0:Value} {b0:List Nat} (K:gM w b #[v0,.int .i64 f1] T) (h0:Rd (Sl 1 xM) w v0 f0 b0) (h1:xS f1):Rd (Pt 2 bV) w (.pointer (some ⟨b,0,none⟩)) (Equation.mk f0 f1) (b::(b0)):=by
  have hm:kD (b0) w:=h0.m;refine⟨⟨b,0,_,rfl,rfl,_,_,(K.cell (0+0)).trans rfl,h0.r,(K.cell (0+1)).trans rfl,h1,rfl⟩,fun c hc=>?_⟩
  rcases List.mem_cons.1 hc with rfl | hc
  · exact K.lt
  · exact hm c hc
instance:FrC 4 qS:=⟨qS.fr,fun w f x bs h=>by
  obtain⟨h0,k0,h1,k1,h2,k2,h3,k3,hbs⟩:=h
  exact(dJ (dJ (dJ (dJ sG h0 rfl) h1 rfl) h2 rfl) h3 rfl)⟩
theorem qS.f0 {w:World} {y:Line}:∀ f bi,qS w f y bi→∃ bj,xM w (fun j=>f (0+j)) y.kind bj∧∀ c∈bj,c∈bi:=fun f bi h=>by
  obtain⟨h0,k0,h1,k1,h2,k2,h3,k3,hbs⟩:=h;exact⟨[],⟨by simpa using h0,k0,rfl⟩,fun c hc=>nomatch hc⟩
theorem qS.f1 {w:World} {y:Line}:∀ f bi,qS w f y bi→∃ bj,xM w (fun j=>f (1+j)) y.var bj∧∀ c∈bj,c∈bi:=fun f bi h=>by
  obtain⟨h0,k0,h1,k1,h2,k2,h3,k3,hbs⟩:=h;exact⟨[],⟨by simpa using h1,k1,rfl⟩,fun c hc=>nomatch hc⟩
theorem qS.f2 {w:World} {y:Line}:∀ f bi,qS w f y bi→∃ bj,xM w (fun j=>f (2+j)) y.value bj∧∀ c∈bj,c∈bi:=fun f bi h=>by
  obtain⟨h0,k0,h1,k1,h2,k2,h3,k3,hbs⟩:=h;exact⟨[],⟨by simpa using h2,k2,rfl⟩,fun c hc=>nomatch hc⟩
theorem qS.f3 {w:World} {y:Line}:∀ f bi,qS w f y bi→∃ bj,xM w (fun j=>f (3+j)) y.con bj∧∀ c∈bj,c∈bi:=fun f bi h=>by
  obtain⟨h0,k0,h1,k1,h2,k2,h3,k3,hbs⟩:=h;exact⟨[],⟨by simpa using h3,k3,rfl⟩,fun c hc=>nomatch hc⟩
theorem qS.rd {w:World} {v:Value} {x:Line} {bs:List Nat} (h:Rd (aY 4 qS) w v x bs):v= .agg #[.int .i64 x.kind,.int .i64 x.var,.int .i64 x.value,.int .i64 x.con]∧xS x.kind∧xS x.var∧xS x.value∧xS x.con∧bs=[]:=by
  obtain⟨e,k0,k1,k2,k3,hbs⟩:=qS.open h.r;exact⟨e,k0,k1,k2,k3,hbs⟩
theorem qS.mk2 {w:World} {f0:Int} {f1:Int} {f2:Int} {f3:Int}  (h0:xS f0) (h1:xS f1) (h2:xS f2) (h3:xS f3):Rd (aY 4 qS) w (.agg #[.int .i64 f0,.int .i64 f1,.int .i64 f2,.int .i64 f3]) (Line.mk f0 f1 f2 f3) ([]):=
  ⟨qS.mk' (x:=⟨f0,f1,f2,f3⟩) h0 h1 h2 h3,kD.nil w⟩
theorem qS.blk {w:World} {T:TypeId} {b:Nat} {f0:Int} {f1:Int} {f2:Int} {f3:Int}  (K:gM w b #[.int .i64 f0,.int .i64 f1,.int .i64 f2,.int .i64 f3] T) (h0:xS f0) (h1:xS f1) (h2:xS f2) (h3:xS f3):Rd (Pt 4 qS) w (.pointer (some ⟨b,0,none⟩)) (Line.mk f0 f1 f2 f3) (b::([])):=by
  have hm:kD ([]) w:=kD.nil w;refine⟨⟨b,0,_,rfl,rfl,(K.cell (0+0)).trans rfl,h0,(K.cell (0+1)).trans rfl,h1,(K.cell (0+2)).trans rfl,h2,(K.cell (0+3)).trans rfl,h3,rfl⟩,fun c hc=>?_⟩
  rcases List.mem_cons.1 hc with rfl | hc
  · exact K.lt
  · exact hm c hc
instance:FrC 2 oU:=⟨oU.fr,fun w f x bs h=>by
  obtain⟨h0,k0,h1,k1,hbs⟩:=h
  exact(dJ (dJ sG h0 rfl) h1 rfl)⟩
theorem oU.f0 {w:World} {y:Literal}:∀ f bi,oU w f y bi→∃ bj,xM w (fun j=>f (0+j)) y.var bj∧∀ c∈bj,c∈bi:=fun f bi h=>by
  obtain⟨h0,k0,h1,k1,hbs⟩:=h;exact⟨[],⟨by simpa using h0,k0,rfl⟩,fun c hc=>nomatch hc⟩
theorem oU.rd {w:World} {v:Value} {x:Literal} {bs:List Nat} (h:Rd (aY 2 oU) w v x bs):v= .agg #[.int .i64 x.var,.int .i64 x.value]∧xS x.var∧xS x.value∧bs=[]:=by
  obtain⟨e,k0,k1,hbs⟩:=oU.open h.r;exact⟨e,k0,k1,hbs⟩
theorem oU.mk2 {w:World} {f0:Int} {f1:Int}  (h0:xS f0) (h1:xS f1):Rd (aY 2 oU) w (.agg #[.int .i64 f0,.int .i64 f1]) (Literal.mk f0 f1) ([]):=
  ⟨oU.mk' (x:=⟨f0,f1⟩) h0 h1,kD.nil w⟩
theorem oU.blk {w:World} {T:TypeId} {b:Nat} {f0:Int} {f1:Int}  (K:gM w b #[.int .i64 f0,.int .i64 f1] T) (h0:xS f0) (h1:xS f1):Rd (Pt 2 oU) w (.pointer (some ⟨b,0,none⟩)) (Literal.mk f0 f1) (b::([])):=by
  have hm:kD ([]) w:=kD.nil w;refine⟨⟨b,0,_,rfl,rfl,(K.cell (0+0)).trans rfl,h0,(K.cell (0+1)).trans rfl,h1,rfl⟩,fun c hc=>?_⟩
  rcases List.mem_cons.1 hc with rfl | hc
  · exact K.lt
  · exact hm c hc
instance:FrC 1 cR:=⟨cR.fr,fun w f x bs h=>by
  obtain⟨v0,b0,h0,k0,hbs⟩:=h
  exact(dJ sG h0 k0.one)⟩
theorem cR.f0 {w:World} {y:Gadgets}:∀ f bi,cR w f y bi→∃ bj,(vS 3 aL) w (fun j=>f (0+j)) y.formulas bj∧∀ c∈bj,c∈bi:=fun f bi h=>by
  obtain⟨v0,b0,h0,k0,hbs⟩:=h;exact⟨b0,⟨v0,by simpa using h0,k0⟩,fun c hc=>by rw[hbs];simp [hc]⟩
theorem cR.mk2 {w:World} {f0:List Formula} {v0:Value} {b0:List Nat} (h0:Rd (Sl 3 aL) w v0 f0 b0):Rd (aY 1 cR) w (.agg #[v0]) (Gadgets.mk f0) (b0):=
  ⟨cR.mk' (x:=⟨f0⟩) h0.r,h0.m⟩
theorem cR.blk {w:World} {T:TypeId} {b:Nat} {f0:List Formula} {v0:Value} {b0:List Nat} (K:gM w b #[v0] T) (h0:Rd (Sl 3 aL) w v0 f0 b0):Rd (Pt 1 cR) w (.pointer (some ⟨b,0,none⟩)) (Gadgets.mk f0) (b::(b0)):=by
  have hm:kD (b0) w:=h0.m;refine⟨⟨b,0,_,rfl,rfl,_,_,(K.cell (0+0)).trans rfl,h0.r,rfl⟩,fun c hc=>?_⟩
  rcases List.mem_cons.1 hc with rfl | hc
  · exact K.lt
  · exact hm c hc
instance:FrC 3 lJ:=⟨lJ.fr,fun w f x bs h=>by
  obtain⟨h0,k0,h1,k1,h2,k2,hbs⟩:=h
  exact(dJ (dJ (dJ sG h0 rfl) h1 rfl) h2 rfl)⟩
theorem lJ.f0 {w:World} {y:Deed}:∀ f bi,lJ w f y bi→∃ bj,xM w (fun j=>f (0+j)) y.kind bj∧∀ c∈bj,c∈bi:=fun f bi h=>by
  obtain⟨h0,k0,h1,k1,h2,k2,hbs⟩:=h;exact⟨[],⟨by simpa using h0,k0,rfl⟩,fun c hc=>nomatch hc⟩
theorem lJ.mk2 {w:World} {f0:Int} {f1:Int} {f2:Int}  (h0:xS f0) (h1:xS f1) (h2:xS f2):Rd (aY 3 lJ) w (.agg #[.int .i64 f0,.int .i64 f1,.int .i64 f2]) (Deed.mk f0 f1 f2) ([]):=
  ⟨lJ.mk' (x:=⟨f0,f1,f2⟩) h0 h1 h2,kD.nil w⟩
theorem lJ.blk {w:World} {T:TypeId} {b:Nat} {f0:Int} {f1:Int} {f2:Int}  (K:gM w b #[.int .i64 f0,.int .i64 f1,.int .i64 f2] T) (h0:xS f0) (h1:xS f1) (h2:xS f2):Rd (Pt 3 lJ) w (.pointer (some ⟨b,0,none⟩)) (Deed.mk f0 f1 f2) (b::([])):=by
  have hm:kD ([]) w:=kD.nil w;refine⟨⟨b,0,_,rfl,rfl,(K.cell (0+0)).trans rfl,h0,(K.cell (0+1)).trans rfl,h1,(K.cell (0+2)).trans rfl,h2,rfl⟩,fun c hc=>?_⟩
  rcases List.mem_cons.1 hc with rfl | hc
  · exact K.lt
  · exact hm c hc
theorem xTq {w:World} {T:TypeId} {b:Nat} {x:Int} (K:gM w b #[.int .i64 x] T) (h:xS x):Rd (Pt 1 xM) w (.pointer (some ⟨b,0,none⟩)) x [b]:=
  ⟨⟨b,0,[],rfl,rfl,(K.cell (0+0)).trans rfl,h,rfl⟩,fun c hc=>by rw[List.mem_singleton] at hc;subst hc;exact K.lt⟩
theorem xTt {α:Type} {sz:Nat} {R:ER α} {w:World} {T:TypeId} {b:Nat} {v:Value} {x:List α} {bs:List Nat} (K:gM w b #[v] T) (h:Rd (Sl sz R) w v x bs):Rd (Pt 1 (vS sz R)) w (.pointer (some ⟨b,0,none⟩)) x (b::bs):=
  ⟨⟨b,0,_,rfl,rfl,v,(K.cell (0+0)).trans rfl,h.r⟩,fun c hc=>by
    rcases List.mem_cons.1 hc with rfl | hc
    · exact K.lt
    · exact h.m c hc⟩
end Go.Proofs.YtfmnjkpddljdcaaGreatDoor
