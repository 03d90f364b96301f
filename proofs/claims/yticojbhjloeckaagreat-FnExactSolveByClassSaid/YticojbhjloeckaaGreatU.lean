import Derived.Test.YticojbhjloeckaaGreatH
import Derived.Test.YticojbhjloeckaaGreatT
namespace Go.Proofs.YticojbhjloeckaaGreat
set_option linter.unusedVariables false
set_option linter.unusedSimpArgs false
open Go.RowKit
theorem tots {n:Nat} {f:Nat→Option Value} (h:∀ j,j<n→∃ v:Value,f j=some v∧v.oneCell'=true) {u:Value} (e:f n=some u) (hu:u.oneCell'=true):∀ j,j<n+1→∃ v:Value,f j=some v∧v.oneCell'=true:=fun j hj=>by
  by_cases hjn:j=n
  · subst hjn;exact⟨u,e,hu⟩
  · exact h j (by omega)
theorem tot0 {f:Nat→Option Value}:∀ j,j<0→∃ v:Value,f j=some v∧v.oneCell'=true:=fun j hj=>by omega
theorem Sl.one {α:Type} {sz:Nat} {R:ER α} {w:World} {v:Value} {l:List α} {bs:List Nat} (h:Sl sz R w v l bs):v.oneCell'=true:=by obtain⟨a,c,rfl⟩:=h.val;rfl
instance:FrC 2 oM:=⟨oM.fr,fun w f x bs h=>by
  obtain⟨v1,b1,h0,k0,h1,k1,hbs⟩:=h
  exact(tots (tots tot0 h0 rfl) h1 k1.one)⟩
theorem oM.f0 {w:World} {y:Rel}:∀ f bi,oM w f y bi→∃ bj,xH w (fun j=>f (0+j)) y.arity bj∧∀ c∈bj,c∈bi:=fun f bi h=>by
  obtain⟨v1,b1,h0,k0,h1,k1,hbs⟩:=h;exact⟨[],⟨by simpa using h0,k0,rfl⟩,fun c hc=>nomatch hc⟩
theorem oM.f1 {w:World} {y:Rel}:∀ f bi,oM w f y bi→∃ bj,(vY 1 zT) w (fun j=>f (1+j)) y.tuples bj∧∀ c∈bj,c∈bi:=fun f bi h=>by
  obtain⟨v1,b1,h0,k0,h1,k1,hbs⟩:=h;exact⟨b1,⟨v1,by simpa using h1,k1⟩,fun c hc=>by rw[hbs];simp [hc]⟩
theorem oM.rd {w:World} {v:Value} {x:Rel} {bs:List Nat} (h:Rd (zC 2 oM) w v x bs):∃ v1:Value,∃ b1:List Nat,v= .agg #[.int .i64 x.arity,v1]∧xY x.arity∧Rd (Sl 1 zT) w v1 x.tuples b1∧bs=b1:=by
  obtain⟨v1,b1,e,k0,k1,hbs⟩:=oM.open h.r;exact⟨v1,b1,e,k0,⟨k1,fun c hc=>h.m c (by rw[hbs];simp [hc])⟩,hbs⟩
theorem oM.mk2 {w:World} {f0:Int} {f1:List (List Int)} {v1:Value} {b1:List Nat} (h0:xY f0) (h1:Rd (Sl 1 zT) w v1 f1 b1):Rd (zC 2 oM) w (.agg #[.int .i64 f0,v1]) (Rel.mk f0 f1) (b1):=
  ⟨oM.mk' (x:=⟨f0,f1⟩) h0 h1.r,h1.m⟩
theorem oM.blk {w:World} {T:TypeId} {b:Nat} {f0:Int} {f1:List (List Int)} {v1:Value} {b1:List Nat} (K:kI w b #[.int .i64 f0,v1] T) (h0:xY f0) (h1:Rd (Sl 1 zT) w v1 f1 b1):Rd (Pt 2 oM) w (.pointer (some ⟨b,0,none⟩)) (Rel.mk f0 f1) (b::(b1)):=by
  have hm:oZ (b1) w:=h1.m;refine⟨⟨b,0,_,rfl,rfl,_,_,(K.cell (0+0)).trans rfl,h0,(K.cell (0+1)).trans rfl,h1.r,rfl⟩,fun c hc=>?_⟩
  rcases List.mem_cons.1 hc with rfl | hc
  · exact K.lt
  · exact hm c hc
instance:FrC 2 xG:=⟨xG.fr,fun w f x bs h=>by
  obtain⟨v1,b1,h0,k0,h1,k1,hbs⟩:=h
  exact(tots (tots tot0 h0 rfl) h1 k1.one)⟩
theorem xG.f0 {w:World} {y:Template}:∀ f bi,xG w f y bi→∃ bj,xH w (fun j=>f (0+j)) y.size bj∧∀ c∈bj,c∈bi:=fun f bi h=>by
  obtain⟨v1,b1,h0,k0,h1,k1,hbs⟩:=h;exact⟨[],⟨by simpa using h0,k0,rfl⟩,fun c hc=>nomatch hc⟩
theorem xG.f1 {w:World} {y:Template}:∀ f bi,xG w f y bi→∃ bj,(vY 2 oM) w (fun j=>f (1+j)) y.rels bj∧∀ c∈bj,c∈bi:=fun f bi h=>by
  obtain⟨v1,b1,h0,k0,h1,k1,hbs⟩:=h;exact⟨b1,⟨v1,by simpa using h1,k1⟩,fun c hc=>by rw[hbs];simp [hc]⟩
theorem xG.rd {w:World} {v:Value} {x:Template} {bs:List Nat} (h:Rd (zC 2 xG) w v x bs):∃ v1:Value,∃ b1:List Nat,v= .agg #[.int .i64 x.size,v1]∧xY x.size∧Rd (Sl 2 oM) w v1 x.rels b1∧bs=b1:=by
  obtain⟨v1,b1,e,k0,k1,hbs⟩:=xG.open h.r;exact⟨v1,b1,e,k0,⟨k1,fun c hc=>h.m c (by rw[hbs];simp [hc])⟩,hbs⟩
theorem xG.mk2 {w:World} {f0:Int} {f1:List Rel} {v1:Value} {b1:List Nat} (h0:xY f0) (h1:Rd (Sl 2 oM) w v1 f1 b1):Rd (zC 2 xG) w (.agg #[.int .i64 f0,v1]) (Template.mk f0 f1) (b1):=
  ⟨xG.mk' (x:=⟨f0,f1⟩) h0 h1.r,h1.m⟩
theorem xG.blk {w:World} {T:TypeId} {b:Nat} {f0:Int} {f1:List Rel} {v1:Value} {b1:List Nat} (K:kI w b #[.int .i64 f0,v1] T) (h0:xY f0) (h1:Rd (Sl 2 oM) w v1 f1 b1):Rd (Pt 2 xG) w (.pointer (some ⟨b,0,none⟩)) (Template.mk f0 f1) (b::(b1)):=by
  have hm:oZ (b1) w:=h1.m;refine⟨⟨b,0,_,rfl,rfl,_,_,(K.cell (0+0)).trans rfl,h0,(K.cell (0+1)).trans rfl,h1.r,rfl⟩,fun c hc=>?_⟩
  rcases List.mem_cons.1 hc with rfl | hc
  · exact K.lt
  · exact hm c hc
instance:FrC 2 ROp:=⟨ROp.fr,fun w f x bs h=>by
  obtain⟨v1,b1,h0,k0,h1,k1,hbs⟩:=h
  exact(tots (tots tot0 h0 rfl) h1 k1.one)⟩
theorem ROp.f0 {w:World} {y:Op}:∀ f bi,ROp w f y bi→∃ bj,xH w (fun j=>f (0+j)) y.arity bj∧∀ c∈bj,c∈bi:=fun f bi h=>by
  obtain⟨v1,b1,h0,k0,h1,k1,hbs⟩:=h;exact⟨[],⟨by simpa using h0,k0,rfl⟩,fun c hc=>nomatch hc⟩
theorem ROp.f1 {w:World} {y:Op}:∀ f bi,ROp w f y bi→∃ bj,(vY 1 xH) w (fun j=>f (1+j)) y.table bj∧∀ c∈bj,c∈bi:=fun f bi h=>by
  obtain⟨v1,b1,h0,k0,h1,k1,hbs⟩:=h;exact⟨b1,⟨v1,by simpa using h1,k1⟩,fun c hc=>by rw[hbs];simp [hc]⟩
theorem ROp.rd {w:World} {v:Value} {x:Op} {bs:List Nat} (h:Rd (zC 2 ROp) w v x bs):∃ v1:Value,∃ b1:List Nat,v= .agg #[.int .i64 x.arity,v1]∧xY x.arity∧Rd (Sl 1 xH) w v1 x.table b1∧bs=b1:=by
  obtain⟨v1,b1,e,k0,k1,hbs⟩:=ROp.open h.r;exact⟨v1,b1,e,k0,⟨k1,fun c hc=>h.m c (by rw[hbs];simp [hc])⟩,hbs⟩
theorem ROp.mk2 {w:World} {f0:Int} {f1:List Int} {v1:Value} {b1:List Nat} (h0:xY f0) (h1:Rd (Sl 1 xH) w v1 f1 b1):Rd (zC 2 ROp) w (.agg #[.int .i64 f0,v1]) (Op.mk f0 f1) (b1):=
  ⟨ROp.mk' (x:=⟨f0,f1⟩) h0 h1.r,h1.m⟩
theorem ROp.blk {w:World} {T:TypeId} {b:Nat} {f0:Int} {f1:List Int} {v1:Value} {b1:List Nat} (K:kI w b #[.int .i64 f0,v1] T) (h0:xY f0) (h1:Rd (Sl 1 xH) w v1 f1 b1):Rd (Pt 2 ROp) w (.pointer (some ⟨b,0,none⟩)) (Op.mk f0 f1) (b::(b1)):=by
  have hm:oZ (b1) w:=h1.m;refine⟨⟨b,0,_,rfl,rfl,_,_,(K.cell (0+0)).trans rfl,h0,(K.cell (0+1)).trans rfl,h1.r,rfl⟩,fun c hc=>?_⟩
  rcases List.mem_cons.1 hc with rfl | hc
  · exact K.lt
  · exact hm c hc
instance:FrC 2 zE:=⟨zE.fr,fun w f x bs h=>by
  obtain⟨v1,b1,h0,k0,h1,k1,hbs⟩:=h
  exact(tots (tots tot0 h0 rfl) h1 k1.one)⟩
theorem zE.rd {w:World} {v:Value} {x:Atom} {bs:List Nat} (h:Rd (zC 2 zE) w v x bs):∃ v1:Value,∃ b1:List Nat,v= .agg #[.int .i64 x.rel,v1]∧xY x.rel∧Rd (Sl 1 xH) w v1 x.args b1∧bs=b1:=by
  obtain⟨v1,b1,e,k0,k1,hbs⟩:=zE.open h.r;exact⟨v1,b1,e,k0,⟨k1,fun c hc=>h.m c (by rw[hbs];simp [hc])⟩,hbs⟩
theorem zE.mk2 {w:World} {f0:Int} {f1:List Int} {v1:Value} {b1:List Nat} (h0:xY f0) (h1:Rd (Sl 1 xH) w v1 f1 b1):Rd (zC 2 zE) w (.agg #[.int .i64 f0,v1]) (Atom.mk f0 f1) (b1):=
  ⟨zE.mk' (x:=⟨f0,f1⟩) h0 h1.r,h1.m⟩
theorem zE.blk {w:World} {T:TypeId} {b:Nat} {f0:Int} {f1:List Int} {v1:Value} {b1:List Nat} (K:kI w b #[.int .i64 f0,v1] T) (h0:xY f0) (h1:Rd (Sl 1 xH) w v1 f1 b1):Rd (Pt 2 zE) w (.pointer (some ⟨b,0,none⟩)) (Atom.mk f0 f1) (b::(b1)):=by
  have hm:oZ (b1) w:=h1.m;refine⟨⟨b,0,_,rfl,rfl,_,_,(K.cell (0+0)).trans rfl,h0,(K.cell (0+1)).trans rfl,h1.r,rfl⟩,fun c hc=>?_⟩
  rcases List.mem_cons.1 hc with rfl | hc
  · exact K.lt
  · exact hm c hc
instance:FrC 3 kA:=⟨kA.fr,fun w f x bs h=>by
  obtain⟨v2,b2,h0,k0,h1,k1,h2,k2,hbs⟩:=h
  exact(tots (tots (tots tot0 h0 rfl) h1 rfl) h2 k2.one)⟩
theorem kA.mk2 {w:World} {f0:Int} {f1:Int} {f2:List Atom} {v2:Value} {b2:List Nat} (h0:xY f0) (h1:xY f1) (h2:Rd (Sl 2 zE) w v2 f2 b2):Rd (zC 3 kA) w (.agg #[.int .i64 f0,.int .i64 f1,v2]) (Formula.mk f0 f1 f2) (b2):=
  ⟨kA.mk' (x:=⟨f0,f1,f2⟩) h0 h1 h2.r,h2.m⟩
theorem kA.blk {w:World} {T:TypeId} {b:Nat} {f0:Int} {f1:Int} {f2:List Atom} {v2:Value} {b2:List Nat} (K:kI w b #[.int .i64 f0,.int .i64 f1,v2] T) (h0:xY f0) (h1:xY f1) (h2:Rd (Sl 2 zE) w v2 f2 b2):Rd (Pt 3 kA) w (.pointer (some ⟨b,0,none⟩)) (Formula.mk f0 f1 f2) (b::(b2)):=by
  have hm:oZ (b2) w:=h2.m;refine⟨⟨b,0,_,rfl,rfl,_,_,(K.cell (0+0)).trans rfl,h0,(K.cell (0+1)).trans rfl,h1,(K.cell (0+2)).trans rfl,h2.r,rfl⟩,fun c hc=>?_⟩
  rcases List.mem_cons.1 hc with rfl | hc
  · exact K.lt
  · exact hm c hc
instance:FrC 2 qX:=⟨qX.fr,fun w f x bs h=>by
  obtain⟨v1,b1,h0,k0,h1,k1,hbs⟩:=h
  exact(tots (tots tot0 h0 rfl) h1 k1.one)⟩
theorem qX.f0 {w:World} {y:Con}:∀ f bi,qX w f y bi→∃ bj,xH w (fun j=>f (0+j)) y.rel bj∧∀ c∈bj,c∈bi:=fun f bi h=>by
  obtain⟨v1,b1,h0,k0,h1,k1,hbs⟩:=h;exact⟨[],⟨by simpa using h0,k0,rfl⟩,fun c hc=>nomatch hc⟩
theorem qX.f1 {w:World} {y:Con}:∀ f bi,qX w f y bi→∃ bj,(vY 1 xH) w (fun j=>f (1+j)) y.scope bj∧∀ c∈bj,c∈bi:=fun f bi h=>by
  obtain⟨v1,b1,h0,k0,h1,k1,hbs⟩:=h;exact⟨b1,⟨v1,by simpa using h1,k1⟩,fun c hc=>by rw[hbs];simp [hc]⟩
theorem qX.rd {w:World} {v:Value} {x:Con} {bs:List Nat} (h:Rd (zC 2 qX) w v x bs):∃ v1:Value,∃ b1:List Nat,v= .agg #[.int .i64 x.rel,v1]∧xY x.rel∧Rd (Sl 1 xH) w v1 x.scope b1∧bs=b1:=by
  obtain⟨v1,b1,e,k0,k1,hbs⟩:=qX.open h.r;exact⟨v1,b1,e,k0,⟨k1,fun c hc=>h.m c (by rw[hbs];simp [hc])⟩,hbs⟩
theorem qX.mk2 {w:World} {f0:Int} {f1:List Int} {v1:Value} {b1:List Nat} (h0:xY f0) (h1:Rd (Sl 1 xH) w v1 f1 b1):Rd (zC 2 qX) w (.agg #[.int .i64 f0,v1]) (Con.mk f0 f1) (b1):=
  ⟨qX.mk' (x:=⟨f0,f1⟩) h0 h1.r,h1.m⟩
theorem qX.blk {w:World} {T:TypeId} {b:Nat} {f0:Int} {f1:List Int} {v1:Value} {b1:List Nat} (K:kI w b #[.int .i64 f0,v1] T) (h0:xY f0) (h1:Rd (Sl 1 xH) w v1 f1 b1):Rd (Pt 2 qX) w (.pointer (some ⟨b,0,none⟩)) (Con.mk f0 f1) (b::(b1)):=by
  have hm:oZ (b1) w:=h1.m;refine⟨⟨b,0,_,rfl,rfl,_,_,(K.cell (0+0)).trans rfl,h0,(K.cell (0+1)).trans rfl,h1.r,rfl⟩,fun c hc=>?_⟩
  rcases List.mem_cons.1 hc with rfl | hc
  · exact K.lt
  · exact hm c hc
instance:FrC 2 xI:=⟨xI.fr,fun w f x bs h=>by
  obtain⟨v1,b1,h0,k0,h1,k1,hbs⟩:=h
  exact(tots (tots tot0 h0 rfl) h1 k1.one)⟩
theorem xI.f0 {w:World} {y:Instance}:∀ f bi,xI w f y bi→∃ bj,xH w (fun j=>f (0+j)) y.vars bj∧∀ c∈bj,c∈bi:=fun f bi h=>by
  obtain⟨v1,b1,h0,k0,h1,k1,hbs⟩:=h;exact⟨[],⟨by simpa using h0,k0,rfl⟩,fun c hc=>nomatch hc⟩
theorem xI.f1 {w:World} {y:Instance}:∀ f bi,xI w f y bi→∃ bj,(vY 2 qX) w (fun j=>f (1+j)) y.cons bj∧∀ c∈bj,c∈bi:=fun f bi h=>by
  obtain⟨v1,b1,h0,k0,h1,k1,hbs⟩:=h;exact⟨b1,⟨v1,by simpa using h1,k1⟩,fun c hc=>by rw[hbs];simp [hc]⟩
theorem xI.rd {w:World} {v:Value} {x:Instance} {bs:List Nat} (h:Rd (zC 2 xI) w v x bs):∃ v1:Value,∃ b1:List Nat,v= .agg #[.int .i64 x.vars,v1]∧xY x.vars∧Rd (Sl 2 qX) w v1 x.cons b1∧bs=b1:=by
  obtain⟨v1,b1,e,k0,k1,hbs⟩:=xI.open h.r;exact⟨v1,b1,e,k0,⟨k1,fun c hc=>h.m c (by rw[hbs];simp [hc])⟩,hbs⟩
theorem xI.mk2 {w:World} {f0:Int} {f1:List Con} {v1:Value} {b1:List Nat} (h0:xY f0) (h1:Rd (Sl 2 qX) w v1 f1 b1):Rd (zC 2 xI) w (.agg #[.int .i64 f0,v1]) (Instance.mk f0 f1) (b1):=
  ⟨xI.mk' (x:=⟨f0,f1⟩) h0 h1.r,h1.m⟩
theorem xI.blk {w:World} {T:TypeId} {b:Nat} {f0:Int} {f1:List Con} {v1:Value} {b1:List Nat} (K:kI w b #[.int .i64 f0,v1] T) (h0:xY f0) (h1:Rd (Sl 2 qX) w v1 f1 b1):Rd (Pt 2 xI) w (.pointer (some ⟨b,0,none⟩)) (Instance.mk f0 f1) (b::(b1)):=by
  have hm:oZ (b1) w:=h1.m;refine⟨⟨b,0,_,rfl,rfl,_,_,(K.cell (0+0)).trans rfl,h0,(K.cell (0+1)).trans rfl,h1.r,rfl⟩,fun c hc=>?_⟩
  rcases List.mem_cons.1 hc with rfl | hc
  · exact K.lt
  · exact hm c hc
instance:FrC 3 qM:=⟨qM.fr,fun w f x bs h=>by
  obtain⟨h0,k0,h1,k1,h2,k2,hbs⟩:=h
  exact(tots (tots (tots tot0 h0 rfl) h1 rfl) h2 rfl)⟩
theorem qM.mk2 {w:World} {f0:Int} {f1:Int} {f2:Int}  (h0:xY f0) (h1:xY f1) (h2:xY f2):Rd (zC 3 qM) w (.agg #[.int .i64 f0,.int .i64 f1,.int .i64 f2]) (ArcStep.mk f0 f1 f2) ([]):=
  ⟨qM.mk' (x:=⟨f0,f1,f2⟩) h0 h1 h2,oZ.nil w⟩
theorem qM.blk {w:World} {T:TypeId} {b:Nat} {f0:Int} {f1:Int} {f2:Int}  (K:kI w b #[.int .i64 f0,.int .i64 f1,.int .i64 f2] T) (h0:xY f0) (h1:xY f1) (h2:xY f2):Rd (Pt 3 qM) w (.pointer (some ⟨b,0,none⟩)) (ArcStep.mk f0 f1 f2) (b::([])):=by
  have hm:oZ ([]) w:=oZ.nil w;refine⟨⟨b,0,_,rfl,rfl,(K.cell (0+0)).trans rfl,h0,(K.cell (0+1)).trans rfl,h1,(K.cell (0+2)).trans rfl,h2,rfl⟩,fun c hc=>?_⟩
  rcases List.mem_cons.1 hc with rfl | hc
  · exact K.lt
  · exact hm c hc
instance:FrC 3 xZ:=⟨xZ.fr,fun w f x bs h=>by
  obtain⟨h0,k0,h1,k1,h2,k2,hbs⟩:=h
  exact(tots (tots (tots tot0 h0 rfl) h1 rfl) h2 rfl)⟩
theorem xZ.f0 {w:World} {y:PairStep}:∀ f bi,xZ w f y bi→∃ bj,xH w (fun j=>f (0+j)) y.i bj∧∀ c∈bj,c∈bi:=fun f bi h=>by
  obtain⟨h0,k0,h1,k1,h2,k2,hbs⟩:=h;exact⟨[],⟨by simpa using h0,k0,rfl⟩,fun c hc=>nomatch hc⟩
theorem xZ.f1 {w:World} {y:PairStep}:∀ f bi,xZ w f y bi→∃ bj,xH w (fun j=>f (1+j)) y.j bj∧∀ c∈bj,c∈bi:=fun f bi h=>by
  obtain⟨h0,k0,h1,k1,h2,k2,hbs⟩:=h;exact⟨[],⟨by simpa using h1,k1,rfl⟩,fun c hc=>nomatch hc⟩
theorem xZ.f2 {w:World} {y:PairStep}:∀ f bi,xZ w f y bi→∃ bj,xH w (fun j=>f (2+j)) y.through bj∧∀ c∈bj,c∈bi:=fun f bi h=>by
  obtain⟨h0,k0,h1,k1,h2,k2,hbs⟩:=h;exact⟨[],⟨by simpa using h2,k2,rfl⟩,fun c hc=>nomatch hc⟩
theorem xZ.rd {w:World} {v:Value} {x:PairStep} {bs:List Nat} (h:Rd (zC 3 xZ) w v x bs):v= .agg #[.int .i64 x.i,.int .i64 x.j,.int .i64 x.through]∧xY x.i∧xY x.j∧xY x.through∧bs=[]:=by
  obtain⟨e,k0,k1,k2,hbs⟩:=xZ.open h.r;exact⟨e,k0,k1,k2,hbs⟩
theorem xZ.mk2 {w:World} {f0:Int} {f1:Int} {f2:Int}  (h0:xY f0) (h1:xY f1) (h2:xY f2):Rd (zC 3 xZ) w (.agg #[.int .i64 f0,.int .i64 f1,.int .i64 f2]) (PairStep.mk f0 f1 f2) ([]):=
  ⟨xZ.mk' (x:=⟨f0,f1,f2⟩) h0 h1 h2,oZ.nil w⟩
theorem xZ.blk {w:World} {T:TypeId} {b:Nat} {f0:Int} {f1:Int} {f2:Int}  (K:kI w b #[.int .i64 f0,.int .i64 f1,.int .i64 f2] T) (h0:xY f0) (h1:xY f1) (h2:xY f2):Rd (Pt 3 xZ) w (.pointer (some ⟨b,0,none⟩)) (PairStep.mk f0 f1 f2) (b::([])):=by
  have hm:oZ ([]) w:=oZ.nil w;refine⟨⟨b,0,_,rfl,rfl,(K.cell (0+0)).trans rfl,h0,(K.cell (0+1)).trans rfl,h1,(K.cell (0+2)).trans rfl,h2,rfl⟩,fun c hc=>?_⟩
  rcases List.mem_cons.1 hc with rfl | hc
  · exact K.lt
  · exact hm c hc
instance:FrC 5 RVerdict:=⟨RVerdict.fr,fun w f x bs h=>by
  obtain⟨v1,v2,v3,v4,b1,b2,b3,b4,h0,k0,h1,k1,h2,k2,h3,k3,h4,k4,hbs⟩:=h
  exact(tots (tots (tots (tots (tots tot0 h0 rfl) h1 k1.one) h2 k2.one) h3 k3.one) h4 k4.one)⟩
theorem RVerdict.mk2 {w:World} {f0:Int} {f1:List Int} {f2:List ArcStep} {f3:List PairStep} {f4:List Int} {v1:Value} {b1:List Nat} {v2:Value} {b2:List Nat} {v3:Value} {b3:List Nat} {v4:Value} {b4:List Nat} (h0:xY f0) (h1:Rd (Sl 1 xH) w v1 f1 b1) (h2:Rd (Sl 3 qM) w v2 f2 b2) (h3:Rd (Sl 3 xZ) w v3 f3 b3) (h4:Rd (Sl 1 xH) w v4 f4 b4):Rd (zC 5 RVerdict) w (.agg #[.int .i64 f0,v1,v2,v3,v4]) (Verdict.mk f0 f1 f2 f3 f4) (b1++b2++b3++b4):=
  ⟨RVerdict.mk' (x:=⟨f0,f1,f2,f3,f4⟩) h0 h1.r h2.r h3.r h4.r,(((h1.m).append h2.m).append h3.m).append h4.m⟩
theorem RVerdict.blk {w:World} {T:TypeId} {b:Nat} {f0:Int} {f1:List Int} {f2:List ArcStep} {f3:List PairStep} {f4:List Int} {v1:Value} {b1:List Nat} {v2:Value} {b2:List Nat} {v3:Value} {b3:List Nat} {v4:Value} {b4:List Nat} (K:kI w b #[.int .i64 f0,v1,v2,v3,v4] T) (h0:xY f0) (h1:Rd (Sl 1 xH) w v1 f1 b1) (h2:Rd (Sl 3 qM) w v2 f2 b2) (h3:Rd (Sl 3 xZ) w v3 f3 b3) (h4:Rd (Sl 1 xH) w v4 f4 b4):Rd (Pt 5 RVerdict) w (.pointer (some ⟨b,0,none⟩)) (Verdict.mk f0 f1 f2 f3 f4) (b::(b1++b2++b3++b4)):=by
  have hm:oZ (b1++b2++b3++b4) w:=(((h1.m).append h2.m).append h3.m).append h4.m;refine⟨⟨b,0,_,rfl,rfl,_,_,_,_,_,_,_,_,(K.cell (0+0)).trans rfl,h0,(K.cell (0+1)).trans rfl,h1.r,(K.cell (0+2)).trans rfl,h2.r,(K.cell (0+3)).trans rfl,h3.r,(K.cell (0+4)).trans rfl,h4.r,rfl⟩,fun c hc=>?_⟩
  rcases List.mem_cons.1 hc with rfl | hc
  · exact K.lt
  · exact hm c hc
instance:FrC 2 vZ:=⟨vZ.fr,fun w f x bs h=>by
  obtain⟨v0,b0,h0,k0,h1,k1,hbs⟩:=h
  exact(tots (tots tot0 h0 k0.one) h1 rfl)⟩
theorem vZ.rd {w:World} {v:Value} {x:Equation} {bs:List Nat} (h:Rd (zC 2 vZ) w v x bs):∃ v0:Value,∃ b0:List Nat,v= .agg #[v0,.int .i64 x.right]∧Rd (Sl 1 xH) w v0 x.left b0∧xY x.right∧bs=b0:=by
  obtain⟨v0,b0,e,k0,k1,hbs⟩:=vZ.open h.r;exact⟨v0,b0,e,⟨k0,fun c hc=>h.m c (by rw[hbs];simp [hc])⟩,k1,hbs⟩
theorem vZ.mk2 {w:World} {f0:List Int} {f1:Int} {v0:Value} {b0:List Nat} (h0:Rd (Sl 1 xH) w v0 f0 b0) (h1:xY f1):Rd (zC 2 vZ) w (.agg #[v0,.int .i64 f1]) (Equation.mk f0 f1) (b0):=
  ⟨vZ.mk' (x:=⟨f0,f1⟩) h0.r h1,h0.m⟩
theorem vZ.blk {w:World} {T:TypeId} {b:Nat} {f0:List Int} {f1:Int} {v0:Value} {b0:List Nat} (K:kI w b #[v0,.int .i64 f1] T) (h0:Rd (Sl 1 xH) w v0 f0 b0) (h1:xY f1):Rd (Pt 2 vZ) w (.pointer (some ⟨b,0,none⟩)) (Equation.mk f0 f1) (b::(b0)):=by
  have hm:oZ (b0) w:=h0.m;refine⟨⟨b,0,_,rfl,rfl,_,_,(K.cell (0+0)).trans rfl,h0.r,(K.cell (0+1)).trans rfl,h1,rfl⟩,fun c hc=>?_⟩
  rcases List.mem_cons.1 hc with rfl | hc
  · exact K.lt
  · exact hm c hc
instance:FrC 4 RLine:=⟨RLine.fr,fun w f x bs h=>by
  obtain⟨h0,k0,h1,k1,h2,k2,h3,k3,hbs⟩:=h
  exact(tots (tots (tots (tots tot0 h0 rfl) h1 rfl) h2 rfl) h3 rfl)⟩
theorem RLine.mk2 {w:World} {f0:Int} {f1:Int} {f2:Int} {f3:Int}  (h0:xY f0) (h1:xY f1) (h2:xY f2) (h3:xY f3):Rd (zC 4 RLine) w (.agg #[.int .i64 f0,.int .i64 f1,.int .i64 f2,.int .i64 f3]) (Line.mk f0 f1 f2 f3) ([]):=
  ⟨RLine.mk' (x:=⟨f0,f1,f2,f3⟩) h0 h1 h2 h3,oZ.nil w⟩
theorem RLine.blk {w:World} {T:TypeId} {b:Nat} {f0:Int} {f1:Int} {f2:Int} {f3:Int}  (K:kI w b #[.int .i64 f0,.int .i64 f1,.int .i64 f2,.int .i64 f3] T) (h0:xY f0) (h1:xY f1) (h2:xY f2) (h3:xY f3):Rd (Pt 4 RLine) w (.pointer (some ⟨b,0,none⟩)) (Line.mk f0 f1 f2 f3) (b::([])):=by
  have hm:oZ ([]) w:=oZ.nil w;refine⟨⟨b,0,_,rfl,rfl,(K.cell (0+0)).trans rfl,h0,(K.cell (0+1)).trans rfl,h1,(K.cell (0+2)).trans rfl,h2,(K.cell (0+3)).trans rfl,h3,rfl⟩,fun c hc=>?_⟩
  rcases List.mem_cons.1 hc with rfl | hc
  · exact K.lt
  · exact hm c hc
instance:FrC 2 RLiteral:=⟨RLiteral.fr,fun w f x bs h=>by
  obtain⟨h0,k0,h1,k1,hbs⟩:=h
  exact(tots (tots tot0 h0 rfl) h1 rfl)⟩
theorem RLiteral.mk2 {w:World} {f0:Int} {f1:Int}  (h0:xY f0) (h1:xY f1):Rd (zC 2 RLiteral) w (.agg #[.int .i64 f0,.int .i64 f1]) (Literal.mk f0 f1) ([]):=
  ⟨RLiteral.mk' (x:=⟨f0,f1⟩) h0 h1,oZ.nil w⟩
theorem RLiteral.blk {w:World} {T:TypeId} {b:Nat} {f0:Int} {f1:Int}  (K:kI w b #[.int .i64 f0,.int .i64 f1] T) (h0:xY f0) (h1:xY f1):Rd (Pt 2 RLiteral) w (.pointer (some ⟨b,0,none⟩)) (Literal.mk f0 f1) (b::([])):=by
  have hm:oZ ([]) w:=oZ.nil w;refine⟨⟨b,0,_,rfl,rfl,(K.cell (0+0)).trans rfl,h0,(K.cell (0+1)).trans rfl,h1,rfl⟩,fun c hc=>?_⟩
  rcases List.mem_cons.1 hc with rfl | hc
  · exact K.lt
  · exact hm c hc
instance:FrC 1 RGadgets:=⟨RGadgets.fr,fun w f x bs h=>by
  obtain⟨v0,b0,h0,k0,hbs⟩:=h
  exact(tots tot0 h0 k0.one)⟩
theorem RGadgets.mk2 {w:World} {f0:List Formula} {v0:Value} {b0:List Nat} (h0:Rd (Sl 3 kA) w v0 f0 b0):Rd (zC 1 RGadgets) w (.agg #[v0]) (Gadgets.mk f0) (b0):=
  ⟨RGadgets.mk' (x:=⟨f0⟩) h0.r,h0.m⟩
theorem RGadgets.blk {w:World} {T:TypeId} {b:Nat} {f0:List Formula} {v0:Value} {b0:List Nat} (K:kI w b #[v0] T) (h0:Rd (Sl 3 kA) w v0 f0 b0):Rd (Pt 1 RGadgets) w (.pointer (some ⟨b,0,none⟩)) (Gadgets.mk f0) (b::(b0)):=by
  have hm:oZ (b0) w:=h0.m;refine⟨⟨b,0,_,rfl,rfl,_,_,(K.cell (0+0)).trans rfl,h0.r,rfl⟩,fun c hc=>?_⟩
  rcases List.mem_cons.1 hc with rfl | hc
  · exact K.lt
  · exact hm c hc
instance:FrC 3 RDeed:=⟨RDeed.fr,fun w f x bs h=>by
  obtain⟨h0,k0,h1,k1,h2,k2,hbs⟩:=h
  exact(tots (tots (tots tot0 h0 rfl) h1 rfl) h2 rfl)⟩
theorem RDeed.mk2 {w:World} {f0:Int} {f1:Int} {f2:Int}  (h0:xY f0) (h1:xY f1) (h2:xY f2):Rd (zC 3 RDeed) w (.agg #[.int .i64 f0,.int .i64 f1,.int .i64 f2]) (Deed.mk f0 f1 f2) ([]):=
  ⟨RDeed.mk' (x:=⟨f0,f1,f2⟩) h0 h1 h2,oZ.nil w⟩
theorem RDeed.blk {w:World} {T:TypeId} {b:Nat} {f0:Int} {f1:Int} {f2:Int}  (K:kI w b #[.int .i64 f0,.int .i64 f1,.int .i64 f2] T) (h0:xY f0) (h1:xY f1) (h2:xY f2):Rd (Pt 3 RDeed) w (.pointer (some ⟨b,0,none⟩)) (Deed.mk f0 f1 f2) (b::([])):=by
  have hm:oZ ([]) w:=oZ.nil w;refine⟨⟨b,0,_,rfl,rfl,(K.cell (0+0)).trans rfl,h0,(K.cell (0+1)).trans rfl,h1,(K.cell (0+2)).trans rfl,h2,rfl⟩,fun c hc=>?_⟩
  rcases List.mem_cons.1 hc with rfl | hc
  · exact K.lt
  · exact hm c hc
theorem cell1I {w:World} {T:TypeId} {b:Nat} {x:Int} (K:kI w b #[.int .i64 x] T) (h:xY x):Rd (Pt 1 xH) w (.pointer (some ⟨b,0,none⟩)) x [b]:=
  ⟨⟨b,0,[],rfl,rfl,(K.cell (0+0)).trans rfl,h,rfl⟩,fun c hc=>by rw[List.mem_singleton] at hc;subst hc;exact K.lt⟩
theorem cell1S {α:Type} {sz:Nat} {R:ER α} {w:World} {T:TypeId} {b:Nat} {v:Value} {x:List α} {bs:List Nat} (K:kI w b #[v] T) (h:Rd (Sl sz R) w v x bs):Rd (Pt 1 (vY sz R)) w (.pointer (some ⟨b,0,none⟩)) x (b::bs):=
  ⟨⟨b,0,_,rfl,rfl,v,(K.cell (0+0)).trans rfl,h.r⟩,fun c hc=>by
    rcases List.mem_cons.1 hc with rfl | hc
    · exact K.lt
    · exact h.m c hc⟩
end Go.Proofs.YticojbhjloeckaaGreat
