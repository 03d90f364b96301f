import Derived.Test.YtlommebgedmjdaaGreatDoorH
import Derived.Test.YtlommebgedmjdaaGreatDoorT
namespace Go.Proofs.YtlommebgedmjdaaGreatDoor
set_option linter.unusedVariables false
set_option linter.unusedSimpArgs false
open Go.RowKit
theorem aS {n:Nat} {f:Nat→Option Value} (h:∀ j,j<n→∃ v:Value,f j=some v∧v.oneCell'=true) {u:Value} (e:f n=some u) (hu:u.oneCell'=true):∀ j,j<n+1→∃ v:Value,f j=some v∧v.oneCell'=true:=fun j hj=>by
  by_cases hjn:j=n
  · subst hjn;exact⟨u,e,hu⟩
  · exact h j (by omega)
theorem sB {f:Nat→Option Value}:∀ j,j<0→∃ v:Value,f j=some v∧v.oneCell'=true:=fun j hj=>by omega
theorem Sl.one {α:Type} {sz:Nat} {R:ER α} {w:World} {v:Value} {l:List α} {bs:List Nat} (h:Sl sz R w v l bs):v.oneCell'=true:=by obtain⟨a,c,rfl⟩:=h.val;rfl
instance:FrC 2 oV:=⟨oV.fr,fun w f x bs h=>by
  obtain⟨v1,b1,h0,k0,h1,k1,hbs⟩:=h
  exact(aS (aS sB h0 rfl) h1 k1.one)⟩
theorem oV.f0 {w:World} {y:Rel}:∀ f bi,oV w f y bi→∃ bj,xG w (fun j=>f (0+j)) y.arity bj∧∀ c∈bj,c∈bi:=fun f bi h=>by
  obtain⟨v1,b1,h0,k0,h1,k1,hbs⟩:=h;exact⟨[],⟨by simpa using h0,k0,rfl⟩,fun c hc=>nomatch hc⟩
theorem oV.f1 {w:World} {y:Rel}:∀ f bi,oV w f y bi→∃ bj,(fG 1 dM) w (fun j=>f (1+j)) y.tuples bj∧∀ c∈bj,c∈bi:=fun f bi h=>by
  obtain⟨v1,b1,h0,k0,h1,k1,hbs⟩:=h;exact⟨b1,⟨v1,by simpa using h1,k1⟩,fun c hc=>by rw[hbs];simp [hc]⟩
theorem oV.rd {w:World} {v:Value} {x:Rel} {bs:List Nat} (h:Rd (qG 2 oV) w v x bs):∃ v1:Value,∃ b1:List Nat,v= .agg #[.int .i64 x.arity,v1]∧xH x.arity∧Rd (Sl 1 dM) w v1 x.tuples b1∧bs=b1:=by
  obtain⟨v1,b1,e,k0,k1,hbs⟩:=oV.open h.r;exact⟨v1,b1,e,k0,⟨k1,fun c hc=>h.m c (by rw[hbs];simp [hc])⟩,hbs⟩
theorem oV.mk2 {w:World} {f0:Int} {f1:List (List Int)} {v1:Value} {b1:List Nat} (h0:xH f0) (h1:Rd (Sl 1 dM) w v1 f1 b1):Rd (qG 2 oV) w (.agg #[.int .i64 f0,v1]) (Rel.mk f0 f1) (b1):=
  ⟨oV.mk' (x:=⟨f0,f1⟩) h0 h1.r,h1.m⟩
theorem oV.blk {w:World} {T:TypeId} {b:Nat} {f0:Int} {f1:List (List Int)} {v1:Value} {b1:List Nat} (K:fI w b #[.int .i64 f0,v1] T) (h0:xH f0) (h1:Rd (Sl 1 dM) w v1 f1 b1):Rd (Pt 2 oV) w (.pointer (some ⟨b,0,none⟩)) (Rel.mk f0 f1) (b::(b1)):=by
  have hm:qM (b1) w:=h1.m;refine⟨⟨b,0,_,rfl,rfl,_,_,(K.cell (0+0)).trans rfl,h0,(K.cell (0+1)).trans rfl,h1.r,rfl⟩,fun c hc=>?_⟩
  rcases List.mem_cons.1 hc with rfl | hc
  · exact K.lt
  · exact hm c hc
instance:FrC 2 xA:=⟨xA.fr,fun w f x bs h=>by
  obtain⟨v1,b1,h0,k0,h1,k1,hbs⟩:=h
  exact(aS (aS sB h0 rfl) h1 k1.one)⟩
theorem xA.f0 {w:World} {y:Template}:∀ f bi,xA w f y bi→∃ bj,xG w (fun j=>f (0+j)) y.size bj∧∀ c∈bj,c∈bi:=fun f bi h=>by
  obtain⟨v1,b1,h0,k0,h1,k1,hbs⟩:=h;exact⟨[],⟨by simpa using h0,k0,rfl⟩,fun c hc=>nomatch hc⟩
theorem xA.f1 {w:World} {y:Template}:∀ f bi,xA w f y bi→∃ bj,(fG 2 oV) w (fun j=>f (1+j)) y.rels bj∧∀ c∈bj,c∈bi:=fun f bi h=>by
  obtain⟨v1,b1,h0,k0,h1,k1,hbs⟩:=h;exact⟨b1,⟨v1,by simpa using h1,k1⟩,fun c hc=>by rw[hbs];simp [hc]⟩
theorem xA.rd {w:World} {v:Value} {x:Template} {bs:List Nat} (h:Rd (qG 2 xA) w v x bs):∃ v1:Value,∃ b1:List Nat,v= .agg #[.int .i64 x.size,v1]∧xH x.size∧Rd (Sl 2 oV) w v1 x.rels b1∧bs=b1:=by
  obtain⟨v1,b1,e,k0,k1,hbs⟩:=xA.open h.r;exact⟨v1,b1,e,k0,⟨k1,fun c hc=>h.m c (by rw[hbs];simp [hc])⟩,hbs⟩
theorem xA.mk2 {w:World} {f0:Int} {f1:List Rel} {v1:Value} {b1:List Nat} (h0:xH f0) (h1:Rd (Sl 2 oV) w v1 f1 b1):Rd (qG 2 xA) w (.agg #[.int .i64 f0,v1]) (Template.mk f0 f1) (b1):=
  ⟨xA.mk' (x:=⟨f0,f1⟩) h0 h1.r,h1.m⟩
theorem xA.blk {w:World} {T:TypeId} {b:Nat} {f0:Int} {f1:List Rel} {v1:Value} {b1:List Nat} (K:fI w b #[.int .i64 f0,v1] T) (h0:xH f0) (h1:Rd (Sl 2 oV) w v1 f1 b1):Rd (Pt 2 xA) w (.pointer (some ⟨b,0,none⟩)) (Template.mk f0 f1) (b::(b1)):=by
  have hm:qM (b1) w:=h1.m;refine⟨⟨b,0,_,rfl,rfl,_,_,(K.cell (0+0)).trans rfl,h0,(K.cell (0+1)).trans rfl,h1.r,rfl⟩,fun c hc=>?_⟩
  rcases List.mem_cons.1 hc with rfl | hc
  · exact K.lt
  · exact hm c hc
instance:FrC 2 ROp:=⟨ROp.fr,fun w f x bs h=>by
  obtain⟨v1,b1,h0,k0,h1,k1,hbs⟩:=h
  exact(aS (aS sB h0 rfl) h1 k1.one)⟩
theorem ROp.rd {w:World} {v:Value} {x:Op} {bs:List Nat} (h:Rd (qG 2 ROp) w v x bs):∃ v1:Value,∃ b1:List Nat,v= .agg #[.int .i64 x.arity,v1]∧xH x.arity∧Rd (Sl 1 xG) w v1 x.table b1∧bs=b1:=by
  obtain⟨v1,b1,e,k0,k1,hbs⟩:=ROp.open h.r;exact⟨v1,b1,e,k0,⟨k1,fun c hc=>h.m c (by rw[hbs];simp [hc])⟩,hbs⟩
theorem ROp.mk2 {w:World} {f0:Int} {f1:List Int} {v1:Value} {b1:List Nat} (h0:xH f0) (h1:Rd (Sl 1 xG) w v1 f1 b1):Rd (qG 2 ROp) w (.agg #[.int .i64 f0,v1]) (Op.mk f0 f1) (b1):=
  ⟨ROp.mk' (x:=⟨f0,f1⟩) h0 h1.r,h1.m⟩
theorem ROp.blk {w:World} {T:TypeId} {b:Nat} {f0:Int} {f1:List Int} {v1:Value} {b1:List Nat} (K:fI w b #[.int .i64 f0,v1] T) (h0:xH f0) (h1:Rd (Sl 1 xG) w v1 f1 b1):Rd (Pt 2 ROp) w (.pointer (some ⟨b,0,none⟩)) (Op.mk f0 f1) (b::(b1)):=by
  have hm:qM (b1) w:=h1.m;refine⟨⟨b,0,_,rfl,rfl,_,_,(K.cell (0+0)).trans rfl,h0,(K.cell (0+1)).trans rfl,h1.r,rfl⟩,fun c hc=>?_⟩
  rcases List.mem_cons.1 hc with rfl | hc
  · exact K.lt
  · exact hm c hc
instance:FrC 2 xM:=⟨xM.fr,fun w f x bs h=>by
  obtain⟨v1,b1,h0,k0,h1,k1,hbs⟩:=h
  exact(aS (aS sB h0 rfl) h1 k1.one)⟩
theorem xM.f0 {w:World} {y:Atom}:∀ f bi,xM w f y bi→∃ bj,xG w (fun j=>f (0+j)) y.rel bj∧∀ c∈bj,c∈bi:=fun f bi h=>by
  obtain⟨v1,b1,h0,k0,h1,k1,hbs⟩:=h;exact⟨[],⟨by simpa using h0,k0,rfl⟩,fun c hc=>nomatch hc⟩
theorem xM.f1 {w:World} {y:Atom}:∀ f bi,xM w f y bi→∃ bj,(fG 1 xG) w (fun j=>f (1+j)) y.args bj∧∀ c∈bj,c∈bi:=fun f bi h=>by
  obtain⟨v1,b1,h0,k0,h1,k1,hbs⟩:=h;exact⟨b1,⟨v1,by simpa using h1,k1⟩,fun c hc=>by rw[hbs];simp [hc]⟩
theorem xM.rd {w:World} {v:Value} {x:Atom} {bs:List Nat} (h:Rd (qG 2 xM) w v x bs):∃ v1:Value,∃ b1:List Nat,v= .agg #[.int .i64 x.rel,v1]∧xH x.rel∧Rd (Sl 1 xG) w v1 x.args b1∧bs=b1:=by
  obtain⟨v1,b1,e,k0,k1,hbs⟩:=xM.open h.r;exact⟨v1,b1,e,k0,⟨k1,fun c hc=>h.m c (by rw[hbs];simp [hc])⟩,hbs⟩
theorem xM.mk2 {w:World} {f0:Int} {f1:List Int} {v1:Value} {b1:List Nat} (h0:xH f0) (h1:Rd (Sl 1 xG) w v1 f1 b1):Rd (qG 2 xM) w (.agg #[.int .i64 f0,v1]) (Atom.mk f0 f1) (b1):=
  ⟨xM.mk' (x:=⟨f0,f1⟩) h0 h1.r,h1.m⟩
theorem xM.blk {w:World} {T:TypeId} {b:Nat} {f0:Int} {f1:List Int} {v1:Value} {b1:List Nat} (K:fI w b #[.int .i64 f0,v1] T) (h0:xH f0) (h1:Rd (Sl 1 xG) w v1 f1 b1):Rd (Pt 2 xM) w (.pointer (some ⟨b,0,none⟩)) (Atom.mk f0 f1) (b::(b1)):=by
  have hm:qM (b1) w:=h1.m;refine⟨⟨b,0,_,rfl,rfl,_,_,(K.cell (0+0)).trans rfl,h0,(K.cell (0+1)).trans rfl,h1.r,rfl⟩,fun c hc=>?_⟩
  rcases List.mem_cons.1 hc with rfl | hc
  · exact K.lt
  · exact hm c hc
instance:FrC 3 xC:=⟨xC.fr,fun w f x bs h=>by
  obtain⟨v2,b2,h0,k0,h1,k1,h2,k2,hbs⟩:=h
  exact(aS (aS (aS sB h0 rfl) h1 rfl) h2 k2.one)⟩
theorem xC.f0 {w:World} {y:Formula}:∀ f bi,xC w f y bi→∃ bj,xG w (fun j=>f (0+j)) y.free bj∧∀ c∈bj,c∈bi:=fun f bi h=>by
  obtain⟨v2,b2,h0,k0,h1,k1,h2,k2,hbs⟩:=h;exact⟨[],⟨by simpa using h0,k0,rfl⟩,fun c hc=>nomatch hc⟩
theorem xC.f1 {w:World} {y:Formula}:∀ f bi,xC w f y bi→∃ bj,xG w (fun j=>f (1+j)) y.vars bj∧∀ c∈bj,c∈bi:=fun f bi h=>by
  obtain⟨v2,b2,h0,k0,h1,k1,h2,k2,hbs⟩:=h;exact⟨[],⟨by simpa using h1,k1,rfl⟩,fun c hc=>nomatch hc⟩
theorem xC.f2 {w:World} {y:Formula}:∀ f bi,xC w f y bi→∃ bj,(fG 2 xM) w (fun j=>f (2+j)) y.atoms bj∧∀ c∈bj,c∈bi:=fun f bi h=>by
  obtain⟨v2,b2,h0,k0,h1,k1,h2,k2,hbs⟩:=h;exact⟨b2,⟨v2,by simpa using h2,k2⟩,fun c hc=>by rw[hbs];simp [hc]⟩
theorem xC.rd {w:World} {v:Value} {x:Formula} {bs:List Nat} (h:Rd (qG 3 xC) w v x bs):∃ v2:Value,∃ b2:List Nat,v= .agg #[.int .i64 x.free,.int .i64 x.vars,v2]∧xH x.free∧xH x.vars∧Rd (Sl 2 xM) w v2 x.atoms b2∧bs=b2:=by
  obtain⟨v2,b2,e,k0,k1,k2,hbs⟩:=xC.open h.r;exact⟨v2,b2,e,k0,k1,⟨k2,fun c hc=>h.m c (by rw[hbs];simp [hc])⟩,hbs⟩
theorem xC.mk2 {w:World} {f0:Int} {f1:Int} {f2:List Atom} {v2:Value} {b2:List Nat} (h0:xH f0) (h1:xH f1) (h2:Rd (Sl 2 xM) w v2 f2 b2):Rd (qG 3 xC) w (.agg #[.int .i64 f0,.int .i64 f1,v2]) (Formula.mk f0 f1 f2) (b2):=
  ⟨xC.mk' (x:=⟨f0,f1,f2⟩) h0 h1 h2.r,h2.m⟩
theorem xC.blk {w:World} {T:TypeId} {b:Nat} {f0:Int} {f1:Int} {f2:List Atom} {v2:Value} {b2:List Nat} (K:fI w b #[.int .i64 f0,.int .i64 f1,v2] T) (h0:xH f0) (h1:xH f1) (h2:Rd (Sl 2 xM) w v2 f2 b2):Rd (Pt 3 xC) w (.pointer (some ⟨b,0,none⟩)) (Formula.mk f0 f1 f2) (b::(b2)):=by
  have hm:qM (b2) w:=h2.m;refine⟨⟨b,0,_,rfl,rfl,_,_,(K.cell (0+0)).trans rfl,h0,(K.cell (0+1)).trans rfl,h1,(K.cell (0+2)).trans rfl,h2.r,rfl⟩,fun c hc=>?_⟩
  rcases List.mem_cons.1 hc with rfl | hc
  · exact K.lt
  · exact hm c hc
instance:FrC 2 oU:=⟨oU.fr,fun w f x bs h=>by
  obtain⟨v1,b1,h0,k0,h1,k1,hbs⟩:=h
  exact(aS (aS sB h0 rfl) h1 k1.one)⟩
theorem oU.f0 {w:World} {y:Con}:∀ f bi,oU w f y bi→∃ bj,xG w (fun j=>f (0+j)) y.rel bj∧∀ c∈bj,c∈bi:=fun f bi h=>by
  obtain⟨v1,b1,h0,k0,h1,k1,hbs⟩:=h;exact⟨[],⟨by simpa using h0,k0,rfl⟩,fun c hc=>nomatch hc⟩
theorem oU.f1 {w:World} {y:Con}:∀ f bi,oU w f y bi→∃ bj,(fG 1 xG) w (fun j=>f (1+j)) y.scope bj∧∀ c∈bj,c∈bi:=fun f bi h=>by
  obtain⟨v1,b1,h0,k0,h1,k1,hbs⟩:=h;exact⟨b1,⟨v1,by simpa using h1,k1⟩,fun c hc=>by rw[hbs];simp [hc]⟩
theorem oU.rd {w:World} {v:Value} {x:Con} {bs:List Nat} (h:Rd (qG 2 oU) w v x bs):∃ v1:Value,∃ b1:List Nat,v= .agg #[.int .i64 x.rel,v1]∧xH x.rel∧Rd (Sl 1 xG) w v1 x.scope b1∧bs=b1:=by
  obtain⟨v1,b1,e,k0,k1,hbs⟩:=oU.open h.r;exact⟨v1,b1,e,k0,⟨k1,fun c hc=>h.m c (by rw[hbs];simp [hc])⟩,hbs⟩
theorem oU.mk2 {w:World} {f0:Int} {f1:List Int} {v1:Value} {b1:List Nat} (h0:xH f0) (h1:Rd (Sl 1 xG) w v1 f1 b1):Rd (qG 2 oU) w (.agg #[.int .i64 f0,v1]) (Con.mk f0 f1) (b1):=
  ⟨oU.mk' (x:=⟨f0,f1⟩) h0 h1.r,h1.m⟩
theorem oU.blk {w:World} {T:TypeId} {b:Nat} {f0:Int} {f1:List Int} {v1:Value} {b1:List Nat} (K:fI w b #[.int .i64 f0,v1] T) (h0:xH f0) (h1:Rd (Sl 1 xG) w v1 f1 b1):Rd (Pt 2 oU) w (.pointer (some ⟨b,0,none⟩)) (Con.mk f0 f1) (b::(b1)):=by
  have hm:qM (b1) w:=h1.m;refine⟨⟨b,0,_,rfl,rfl,_,_,(K.cell (0+0)).trans rfl,h0,(K.cell (0+1)).trans rfl,h1.r,rfl⟩,fun c hc=>?_⟩
  rcases List.mem_cons.1 hc with rfl | hc
  · exact K.lt
  · exact hm c hc
instance:FrC 2 xB:=⟨xB.fr,fun w f x bs h=>by
  obtain⟨v1,b1,h0,k0,h1,k1,hbs⟩:=h
  exact(aS (aS sB h0 rfl) h1 k1.one)⟩
theorem xB.f0 {w:World} {y:Instance}:∀ f bi,xB w f y bi→∃ bj,xG w (fun j=>f (0+j)) y.vars bj∧∀ c∈bj,c∈bi:=fun f bi h=>by
  obtain⟨v1,b1,h0,k0,h1,k1,hbs⟩:=h;exact⟨[],⟨by simpa using h0,k0,rfl⟩,fun c hc=>nomatch hc⟩
theorem xB.f1 {w:World} {y:Instance}:∀ f bi,xB w f y bi→∃ bj,(fG 2 oU) w (fun j=>f (1+j)) y.cons bj∧∀ c∈bj,c∈bi:=fun f bi h=>by
  obtain⟨v1,b1,h0,k0,h1,k1,hbs⟩:=h;exact⟨b1,⟨v1,by simpa using h1,k1⟩,fun c hc=>by rw[hbs];simp [hc]⟩
theorem xB.rd {w:World} {v:Value} {x:Instance} {bs:List Nat} (h:Rd (qG 2 xB) w v x bs):∃ v1:Value,∃ b1:List Nat,v= .agg #[.int .i64 x.vars,v1]∧xH x.vars∧Rd (Sl 2 oU) w v1 x.cons b1∧bs=b1:=by
  obtain⟨v1,b1,e,k0,k1,hbs⟩:=xB.open h.r;exact⟨v1,b1,e,k0,⟨k1,fun c hc=>h.m c (by rw[hbs];simp [hc])⟩,hbs⟩
theorem xB.mk2 {w:World} {f0:Int} {f1:List Con} {v1:Value} {b1:List Nat} (h0:xH f0) (h1:Rd (Sl 2 oU) w v1 f1 b1):Rd (qG 2 xB) w (.agg #[.int .i64 f0,v1]) (Instance.mk f0 f1) (b1):=
  ⟨xB.mk' (x:=⟨f0,f1⟩) h0 h1.r,h1.m⟩
theorem xB.blk {w:World} {T:TypeId} {b:Nat} {f0:Int} {f1:List Con} {v1:Value} {b1:List Nat} (K:fI w b #[.int .i64 f0,v1] T) (h0:xH f0) (h1:Rd (Sl 2 oU) w v1 f1 b1):Rd (Pt 2 xB) w (.pointer (some ⟨b,0,none⟩)) (Instance.mk f0 f1) (b::(b1)):=by
  have hm:qM (b1) w:=h1.m;refine⟨⟨b,0,_,rfl,rfl,_,_,(K.cell (0+0)).trans rfl,h0,(K.cell (0+1)).trans rfl,h1.r,rfl⟩,fun c hc=>?_⟩
  rcases List.mem_cons.1 hc with rfl | hc
  · exact K.lt
  · exact hm c hc
instance:FrC 3 qP:=⟨qP.fr,fun w f x bs h=>by
  obtain⟨h0,k0,h1,k1,h2,k2,hbs⟩:=h
  exact(aS (aS (aS sB h0 rfl) h1 rfl) h2 rfl)⟩
theorem qP.rd {w:World} {v:Value} {x:ArcStep} {bs:List Nat} (h:Rd (qG 3 qP) w v x bs):v= .agg #[.int .i64 x.var,.int .i64 x.value,.int .i64 x.con]∧xH x.var∧xH x.value∧xH x.con∧bs=[]:=by
  obtain⟨e,k0,k1,k2,hbs⟩:=qP.open h.r;exact⟨e,k0,k1,k2,hbs⟩
theorem qP.mk2 {w:World} {f0:Int} {f1:Int} {f2:Int}  (h0:xH f0) (h1:xH f1) (h2:xH f2):Rd (qG 3 qP) w (.agg #[.int .i64 f0,.int .i64 f1,.int .i64 f2]) (ArcStep.mk f0 f1 f2) ([]):=
  ⟨qP.mk' (x:=⟨f0,f1,f2⟩) h0 h1 h2,qM.nil w⟩
theorem qP.blk {w:World} {T:TypeId} {b:Nat} {f0:Int} {f1:Int} {f2:Int}  (K:fI w b #[.int .i64 f0,.int .i64 f1,.int .i64 f2] T) (h0:xH f0) (h1:xH f1) (h2:xH f2):Rd (Pt 3 qP) w (.pointer (some ⟨b,0,none⟩)) (ArcStep.mk f0 f1 f2) (b::([])):=by
  have hm:qM ([]) w:=qM.nil w;refine⟨⟨b,0,_,rfl,rfl,(K.cell (0+0)).trans rfl,h0,(K.cell (0+1)).trans rfl,h1,(K.cell (0+2)).trans rfl,h2,rfl⟩,fun c hc=>?_⟩
  rcases List.mem_cons.1 hc with rfl | hc
  · exact K.lt
  · exact hm c hc
instance:FrC 3 oR:=⟨oR.fr,fun w f x bs h=>by
  obtain⟨h0,k0,h1,k1,h2,k2,hbs⟩:=h
  exact(aS (aS (aS sB h0 rfl) h1 rfl) h2 rfl)⟩
theorem oR.rd {w:World} {v:Value} {x:PairStep} {bs:List Nat} (h:Rd (qG 3 oR) w v x bs):v= .agg #[.int .i64 x.i,.int .i64 x.j,.int .i64 x.through]∧xH x.i∧xH x.j∧xH x.through∧bs=[]:=by
  obtain⟨e,k0,k1,k2,hbs⟩:=oR.open h.r;exact⟨e,k0,k1,k2,hbs⟩
theorem oR.mk2 {w:World} {f0:Int} {f1:Int} {f2:Int}  (h0:xH f0) (h1:xH f1) (h2:xH f2):Rd (qG 3 oR) w (.agg #[.int .i64 f0,.int .i64 f1,.int .i64 f2]) (PairStep.mk f0 f1 f2) ([]):=
  ⟨oR.mk' (x:=⟨f0,f1,f2⟩) h0 h1 h2,qM.nil w⟩
theorem oR.blk {w:World} {T:TypeId} {b:Nat} {f0:Int} {f1:Int} {f2:Int}  (K:fI w b #[.int .i64 f0,.int .i64 f1,.int .i64 f2] T) (h0:xH f0) (h1:xH f1) (h2:xH f2):Rd (Pt 3 oR) w (.pointer (some ⟨b,0,none⟩)) (PairStep.mk f0 f1 f2) (b::([])):=by
  have hm:qM ([]) w:=qM.nil w;refine⟨⟨b,0,_,rfl,rfl,(K.cell (0+0)).trans rfl,h0,(K.cell (0+1)).trans rfl,h1,(K.cell (0+2)).trans rfl,h2,rfl⟩,fun c hc=>?_⟩
  rcases List.mem_cons.1 hc with rfl | hc
  · exact K.lt
  · exact hm c hc
instance:FrC 5 zR:=⟨zR.fr,fun w f x bs h=>by
  obtain⟨v1,v2,v3,v4,b1,b2,b3,b4,h0,k0,h1,k1,h2,k2,h3,k3,h4,k4,hbs⟩:=h
  exact(aS (aS (aS (aS (aS sB h0 rfl) h1 k1.one) h2 k2.one) h3 k3.one) h4 k4.one)⟩
theorem zR.rd {w:World} {v:Value} {x:Verdict} {bs:List Nat} (h:Rd (qG 5 zR) w v x bs):∃ v1 v2 v3 v4:Value,∃ b1 b2 b3 b4:List Nat,v= .agg #[.int .i64 x.kind,v1,v2,v3,v4]∧xH x.kind∧Rd (Sl 1 xG) w v1 x.values b1∧Rd (Sl 3 qP) w v2 x.arcs b2∧Rd (Sl 3 oR) w v3 x.pairs b3∧Rd (Sl 1 xG) w v4 x.numbers b4∧bs=b1++b2++b3++b4:=by
  obtain⟨v1,v2,v3,v4,b1,b2,b3,b4,e,k0,k1,k2,k3,k4,hbs⟩:=zR.open h.r;exact⟨v1,v2,v3,v4,b1,b2,b3,b4,e,k0,⟨k1,fun c hc=>h.m c (by rw[hbs];simp [hc])⟩,⟨k2,fun c hc=>h.m c (by rw[hbs];simp [hc])⟩,⟨k3,fun c hc=>h.m c (by rw[hbs];simp [hc])⟩,⟨k4,fun c hc=>h.m c (by rw[hbs];simp [hc])⟩,hbs⟩
theorem zR.mk2 {w:World} {f0:Int} {f1:List Int} {f2:List ArcStep} {f3:List PairStep} {f4:List Int} {v1:Value} {b1:List Nat} {v2:Value} {b2:List Nat} {v3:Value} {b3:List Nat} {v4:Value} {b4:List Nat} (h0:xH f0) (h1:Rd (Sl 1 xG) w v1 f1 b1) (h2:Rd (Sl 3 qP) w v2 f2 b2) (h3:Rd (Sl 3 oR) w v3 f3 b3) (h4:Rd (Sl 1 xG) w v4 f4 b4):Rd (qG 5 zR) w (.agg #[.int .i64 f0,v1,v2,v3,v4]) (Verdict.mk f0 f1 f2 f3 f4) (b1++b2++b3++b4):=
  ⟨zR.mk' (x:=⟨f0,f1,f2,f3,f4⟩) h0 h1.r h2.r h3.r h4.r,(((h1.m).append h2.m).append h3.m).append h4.m⟩
theorem zR.blk {w:World} {T:TypeId} {b:Nat} {f0:Int} {f1:List Int} {f2:List ArcStep} {f3:List PairStep} {f4:List Int} {v1:Value} {b1:List Nat} {v2:Value} {b2:List Nat} {v3:Value} {b3:List Nat} {v4:Value} {b4:List Nat} (K:fI w b #[.int .i64 f0,v1,v2,v3,v4] T) (h0:xH f0) (h1:Rd (Sl 1 xG) w v1 f1 b1) (h2:Rd (Sl 3 qP) w v2 f2 b2) (h3:Rd (Sl 3 oR) w v3 f3 b3) (h4:Rd (Sl 1 xG) w v4 f4 b4):Rd (Pt 5 zR) w (.pointer (some ⟨b,0,none⟩)) (Verdict.mk f0 f1 f2 f3 f4) (b::(b1++b2++b3++b4)):=by
  have hm:qM (b1++b2++b3++b4) w:=(((h1.m).append h2.m).append h3.m).append h4.m;refine⟨⟨b,0,_,rfl,rfl,_,_,_,_,_,_,_,_,(K.cell (0+0)).trans rfl,h0,(K.cell (0+1)).trans rfl,h1.r,(K.cell (0+2)).trans rfl,h2.r,(K.cell (0+3)).trans rfl,h3.r,(K.cell (0+4)).trans rfl,h4.r,rfl⟩,fun c hc=>?_⟩
  rcases List.mem_cons.1 hc with rfl | hc
  · exact K.lt
  · exact hm c hc
instance:FrC 2 vQ:=⟨vQ.fr,fun w f x bs h=>by
  obtain⟨v0,b0,h0,k0,h1,k1,hbs⟩:=h
  exact(aS (aS sB h0 k0.one) h1 rfl)⟩
theorem vQ.rd {w:World} {v:Value} {x:Equation} {bs:List Nat} (h:Rd (qG 2 vQ) w v x bs):∃ v0:Value,∃ b0:List Nat,v= .agg #[v0,.int .i64 x.right]∧Rd (Sl 1 xG) w v0 x.left b0∧xH x.right∧bs=b0:=by
  obtain⟨v0,b0,e,k0,k1,hbs⟩:=vQ.open h.r;exact⟨v0,b0,e,⟨k0,fun c hc=>h.m c (by rw[hbs];simp [hc])⟩,k1,hbs⟩
theorem vQ.mk2 {w:World} {f0:List Int} {f1:Int} {v0:Value} {b0:List Nat} (h0:Rd (Sl 1 xG) w v0 f0 b0) (h1:xH f1):Rd (qG 2 vQ) w (.agg #[v0,.int .i64 f1]) (Equation.mk f0 f1) (b0):=
  ⟨vQ.mk' (x:=⟨f0,f1⟩) h0.r h1,h0.m⟩
theorem vQ.blk {w:World} {T:TypeId} {b:Nat} {f0:List Int} {f1:Int} {v0:Value} {b0:List Nat} (K:fI w b #[v0,.int .i64 f1] T) (h0:Rd (Sl 1 xG) w v0 f0 b0) (h1:xH f1):Rd (Pt 2 vQ) w (.pointer (some ⟨b,0,none⟩)) (Equation.mk f0 f1) (b::(b0)):=by
  have hm:qM (b0) w:=h0.m;refine⟨⟨b,0,_,rfl,rfl,_,_,(K.cell (0+0)).trans rfl,h0.r,(K.cell (0+1)).trans rfl,h1,rfl⟩,fun c hc=>?_⟩
  rcases List.mem_cons.1 hc with rfl | hc
  · exact K.lt
  · exact hm c hc
instance:FrC 4 fH:=⟨fH.fr,fun w f x bs h=>by
  obtain⟨h0,k0,h1,k1,h2,k2,h3,k3,hbs⟩:=h
  exact(aS (aS (aS (aS sB h0 rfl) h1 rfl) h2 rfl) h3 rfl)⟩
theorem fH.rd {w:World} {v:Value} {x:Line} {bs:List Nat} (h:Rd (qG 4 fH) w v x bs):v= .agg #[.int .i64 x.kind,.int .i64 x.var,.int .i64 x.value,.int .i64 x.con]∧xH x.kind∧xH x.var∧xH x.value∧xH x.con∧bs=[]:=by
  obtain⟨e,k0,k1,k2,k3,hbs⟩:=fH.open h.r;exact⟨e,k0,k1,k2,k3,hbs⟩
theorem fH.mk2 {w:World} {f0:Int} {f1:Int} {f2:Int} {f3:Int}  (h0:xH f0) (h1:xH f1) (h2:xH f2) (h3:xH f3):Rd (qG 4 fH) w (.agg #[.int .i64 f0,.int .i64 f1,.int .i64 f2,.int .i64 f3]) (Line.mk f0 f1 f2 f3) ([]):=
  ⟨fH.mk' (x:=⟨f0,f1,f2,f3⟩) h0 h1 h2 h3,qM.nil w⟩
theorem fH.blk {w:World} {T:TypeId} {b:Nat} {f0:Int} {f1:Int} {f2:Int} {f3:Int}  (K:fI w b #[.int .i64 f0,.int .i64 f1,.int .i64 f2,.int .i64 f3] T) (h0:xH f0) (h1:xH f1) (h2:xH f2) (h3:xH f3):Rd (Pt 4 fH) w (.pointer (some ⟨b,0,none⟩)) (Line.mk f0 f1 f2 f3) (b::([])):=by
  have hm:qM ([]) w:=qM.nil w;refine⟨⟨b,0,_,rfl,rfl,(K.cell (0+0)).trans rfl,h0,(K.cell (0+1)).trans rfl,h1,(K.cell (0+2)).trans rfl,h2,(K.cell (0+3)).trans rfl,h3,rfl⟩,fun c hc=>?_⟩
  rcases List.mem_cons.1 hc with rfl | hc
  · exact K.lt
  · exact hm c hc
instance:FrC 2 zK:=⟨zK.fr,fun w f x bs h=>by
  obtain⟨h0,k0,h1,k1,hbs⟩:=h
  exact(aS (aS sB h0 rfl) h1 rfl)⟩
theorem zK.rd {w:World} {v:Value} {x:Literal} {bs:List Nat} (h:Rd (qG 2 zK) w v x bs):v= .agg #[.int .i64 x.var,.int .i64 x.value]∧xH x.var∧xH x.value∧bs=[]:=by
  obtain⟨e,k0,k1,hbs⟩:=zK.open h.r;exact⟨e,k0,k1,hbs⟩
theorem zK.mk2 {w:World} {f0:Int} {f1:Int}  (h0:xH f0) (h1:xH f1):Rd (qG 2 zK) w (.agg #[.int .i64 f0,.int .i64 f1]) (Literal.mk f0 f1) ([]):=
  ⟨zK.mk' (x:=⟨f0,f1⟩) h0 h1,qM.nil w⟩
theorem zK.blk {w:World} {T:TypeId} {b:Nat} {f0:Int} {f1:Int}  (K:fI w b #[.int .i64 f0,.int .i64 f1] T) (h0:xH f0) (h1:xH f1):Rd (Pt 2 zK) w (.pointer (some ⟨b,0,none⟩)) (Literal.mk f0 f1) (b::([])):=by
  have hm:qM ([]) w:=qM.nil w;refine⟨⟨b,0,_,rfl,rfl,(K.cell (0+0)).trans rfl,h0,(K.cell (0+1)).trans rfl,h1,rfl⟩,fun c hc=>?_⟩
  rcases List.mem_cons.1 hc with rfl | hc
  · exact K.lt
  · exact hm c hc
instance:FrC 1 xJ:=⟨xJ.fr,fun w f x bs h=>by
  obtain⟨v0,b0,h0,k0,hbs⟩:=h
  exact(aS sB h0 k0.one)⟩
theorem xJ.f0 {w:World} {y:Gadgets}:∀ f bi,xJ w f y bi→∃ bj,(fG 3 xC) w (fun j=>f (0+j)) y.formulas bj∧∀ c∈bj,c∈bi:=fun f bi h=>by
  obtain⟨v0,b0,h0,k0,hbs⟩:=h;exact⟨b0,⟨v0,by simpa using h0,k0⟩,fun c hc=>by rw[hbs];simp [hc]⟩
theorem xJ.rd {w:World} {v:Value} {x:Gadgets} {bs:List Nat} (h:Rd (qG 1 xJ) w v x bs):∃ v0:Value,∃ b0:List Nat,v= .agg #[v0]∧Rd (Sl 3 xC) w v0 x.formulas b0∧bs=b0:=by
  obtain⟨v0,b0,e,k0,hbs⟩:=xJ.open h.r;exact⟨v0,b0,e,⟨k0,fun c hc=>h.m c (by rw[hbs];simp [hc])⟩,hbs⟩
theorem xJ.mk2 {w:World} {f0:List Formula} {v0:Value} {b0:List Nat} (h0:Rd (Sl 3 xC) w v0 f0 b0):Rd (qG 1 xJ) w (.agg #[v0]) (Gadgets.mk f0) (b0):=
  ⟨xJ.mk' (x:=⟨f0⟩) h0.r,h0.m⟩
theorem xJ.blk {w:World} {T:TypeId} {b:Nat} {f0:List Formula} {v0:Value} {b0:List Nat} (K:fI w b #[v0] T) (h0:Rd (Sl 3 xC) w v0 f0 b0):Rd (Pt 1 xJ) w (.pointer (some ⟨b,0,none⟩)) (Gadgets.mk f0) (b::(b0)):=by
  have hm:qM (b0) w:=h0.m;refine⟨⟨b,0,_,rfl,rfl,_,_,(K.cell (0+0)).trans rfl,h0.r,rfl⟩,fun c hc=>?_⟩
  rcases List.mem_cons.1 hc with rfl | hc
  · exact K.lt
  · exact hm c hc
instance:FrC 3 fK:=⟨fK.fr,fun w f x bs h=>by
  obtain⟨h0,k0,h1,k1,h2,k2,hbs⟩:=h
  exact(aS (aS (aS sB h0 rfl) h1 rfl) h2 rfl)⟩
theorem fK.rd {w:World} {v:Value} {x:Deed} {bs:List Nat} (h:Rd (qG 3 fK) w v x bs):v= .agg #[.int .i64 x.kind,.int .i64 x.a,.int .i64 x.b]∧xH x.kind∧xH x.a∧xH x.b∧bs=[]:=by
  obtain⟨e,k0,k1,k2,hbs⟩:=fK.open h.r;exact⟨e,k0,k1,k2,hbs⟩
theorem fK.mk2 {w:World} {f0:Int} {f1:Int} {f2:Int}  (h0:xH f0) (h1:xH f1) (h2:xH f2):Rd (qG 3 fK) w (.agg #[.int .i64 f0,.int .i64 f1,.int .i64 f2]) (Deed.mk f0 f1 f2) ([]):=
  ⟨fK.mk' (x:=⟨f0,f1,f2⟩) h0 h1 h2,qM.nil w⟩
theorem fK.blk {w:World} {T:TypeId} {b:Nat} {f0:Int} {f1:Int} {f2:Int}  (K:fI w b #[.int .i64 f0,.int .i64 f1,.int .i64 f2] T) (h0:xH f0) (h1:xH f1) (h2:xH f2):Rd (Pt 3 fK) w (.pointer (some ⟨b,0,none⟩)) (Deed.mk f0 f1 f2) (b::([])):=by
  have hm:qM ([]) w:=qM.nil w;refine⟨⟨b,0,_,rfl,rfl,(K.cell (0+0)).trans rfl,h0,(K.cell (0+1)).trans rfl,h1,(K.cell (0+2)).trans rfl,h2,rfl⟩,fun c hc=>?_⟩
  rcases List.mem_cons.1 hc with rfl | hc
  · exact K.lt
  · exact hm c hc
theorem xYz {w:World} {T:TypeId} {b:Nat} {x:Int} (K:fI w b #[.int .i64 x] T) (h:xH x):Rd (Pt 1 xG) w (.pointer (some ⟨b,0,none⟩)) x [b]:=
  ⟨⟨b,0,[],rfl,rfl,(K.cell (0+0)).trans rfl,h,rfl⟩,fun c hc=>by rw[List.mem_singleton] at hc;subst hc;exact K.lt⟩
theorem xZn {α:Type} {sz:Nat} {R:ER α} {w:World} {T:TypeId} {b:Nat} {v:Value} {x:List α} {bs:List Nat} (K:fI w b #[v] T) (h:Rd (Sl sz R) w v x bs):Rd (Pt 1 (fG sz R)) w (.pointer (some ⟨b,0,none⟩)) x (b::bs):=
  ⟨⟨b,0,_,rfl,rfl,v,(K.cell (0+0)).trans rfl,h.r⟩,fun c hc=>by
    rcases List.mem_cons.1 hc with rfl | hc
    · exact K.lt
    · exact h.m c hc⟩
end Go.Proofs.YtlommebgedmjdaaGreatDoor
