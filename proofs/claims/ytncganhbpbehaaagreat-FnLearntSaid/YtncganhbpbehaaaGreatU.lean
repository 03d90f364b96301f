import Derived.Test.YtncganhbpbehaaaGreatH
import Derived.Test.YtncganhbpbehaaaGreatT
namespace Go.Proofs.YtncganhbpbehaaaGreat
set_option linter.unusedVariables false
set_option linter.unusedSimpArgs false
open Go.RowKit
theorem cB {n:Nat} {f:Nat→Option Value} (h:∀ j,j<n→∃ v:Value,f j=some v∧v.oneCell'=true) {u:Value} (e:f n=some u) (hu:u.oneCell'=true):∀ j,j<n+1→∃ v:Value,f j=some v∧v.oneCell'=true:=fun j hj=>by
  by_cases hjn:j=n
  · subst hjn;exact⟨u,e,hu⟩
  · exact h j (by omega)
theorem nS {f:Nat→Option Value}:∀ j,j<0→∃ v:Value,f j=some v∧v.oneCell'=true:=fun j hj=>by omega
theorem Sl.one {α:Type} {sz:Nat} {R:ER α} {w:World} {v:Value} {l:List α} {bs:List Nat} (h:Sl sz R w v l bs):v.oneCell'=true:=by obtain⟨a,c,rfl⟩:=h.val;rfl
instance:FrC 2 oV:=⟨oV.fr,fun w f x bs h=>by
  obtain⟨v1,b1,h0,k0,h1,k1,hbs⟩:=h
  exact(cB (cB nS h0 rfl) h1 k1.one)⟩
theorem oV.f0 {w:World} {y:Rel}:∀ f bi,oV w f y bi→∃ bj,xI w (fun j=>f (0+j)) y.arity bj∧∀ c∈bj,c∈bi:=fun f bi h=>by
  obtain⟨v1,b1,h0,k0,h1,k1,hbs⟩:=h;exact⟨[],⟨by simpa using h0,k0,rfl⟩,fun c hc=>nomatch hc⟩
theorem oV.f1 {w:World} {y:Rel}:∀ f bi,oV w f y bi→∃ bj,(vQ 1 iE) w (fun j=>f (1+j)) y.tuples bj∧∀ c∈bj,c∈bi:=fun f bi h=>by
  obtain⟨v1,b1,h0,k0,h1,k1,hbs⟩:=h;exact⟨b1,⟨v1,by simpa using h1,k1⟩,fun c hc=>by rw[hbs];simp [hc]⟩
theorem oV.rd {w:World} {v:Value} {x:Rel} {bs:List Nat} (h:Rd (kK 2 oV) w v x bs):∃ v1:Value,∃ b1:List Nat,v= .agg #[.int .i64 x.arity,v1]∧xS x.arity∧Rd (Sl 1 iE) w v1 x.tuples b1∧bs=b1:=by
  obtain⟨v1,b1,e,k0,k1,hbs⟩:=oV.open h.r;exact⟨v1,b1,e,k0,⟨k1,fun c hc=>h.m c (by rw[hbs];simp [hc])⟩,hbs⟩
theorem oV.mk2 {w:World} {f0:Int} {f1:List (List Int)} {v1:Value} {b1:List Nat} (h0:xS f0) (h1:Rd (Sl 1 iE) w v1 f1 b1):Rd (kK 2 oV) w (.agg #[.int .i64 f0,v1]) (Rel.mk f0 f1) (b1):=
  ⟨oV.mk' (x:=⟨f0,f1⟩) h0 h1.r,h1.m⟩
theorem oV.blk {w:World} {T:TypeId} {b:Nat} {f0:Int} {f1:List (List Int)} {v1:Value} {b1:List Nat} (K:eM w b #[.int .i64 f0,v1] T) (h0:xS f0) (h1:Rd (Sl 1 iE) w v1 f1 b1):Rd (Pt 2 oV) w (.pointer (some ⟨b,0,none⟩)) (Rel.mk f0 f1) (b::(b1)):=by
  have hm:zK (b1) w:=h1.m;refine⟨⟨b,0,_,rfl,rfl,_,_,(K.cell (0+0)).trans rfl,h0,(K.cell (0+1)).trans rfl,h1.r,rfl⟩,fun c hc=>?_⟩
  rcases List.mem_cons.1 hc with rfl | hc
  · exact K.lt
  · exact hm c hc
instance:FrC 2 xH:=⟨xH.fr,fun w f x bs h=>by
  obtain⟨v1,b1,h0,k0,h1,k1,hbs⟩:=h
  exact(cB (cB nS h0 rfl) h1 k1.one)⟩
theorem xH.f0 {w:World} {y:Template}:∀ f bi,xH w f y bi→∃ bj,xI w (fun j=>f (0+j)) y.size bj∧∀ c∈bj,c∈bi:=fun f bi h=>by
  obtain⟨v1,b1,h0,k0,h1,k1,hbs⟩:=h;exact⟨[],⟨by simpa using h0,k0,rfl⟩,fun c hc=>nomatch hc⟩
theorem xH.f1 {w:World} {y:Template}:∀ f bi,xH w f y bi→∃ bj,(vQ 2 oV) w (fun j=>f (1+j)) y.rels bj∧∀ c∈bj,c∈bi:=fun f bi h=>by
  obtain⟨v1,b1,h0,k0,h1,k1,hbs⟩:=h;exact⟨b1,⟨v1,by simpa using h1,k1⟩,fun c hc=>by rw[hbs];simp [hc]⟩
theorem xH.rd {w:World} {v:Value} {x:Template} {bs:List Nat} (h:Rd (kK 2 xH) w v x bs):∃ v1:Value,∃ b1:List Nat,v= .agg #[.int .i64 x.size,v1]∧xS x.size∧Rd (Sl 2 oV) w v1 x.rels b1∧bs=b1:=by
  obtain⟨v1,b1,e,k0,k1,hbs⟩:=xH.open h.r;exact⟨v1,b1,e,k0,⟨k1,fun c hc=>h.m c (by rw[hbs];simp [hc])⟩,hbs⟩
theorem xH.mk2 {w:World} {f0:Int} {f1:List Rel} {v1:Value} {b1:List Nat} (h0:xS f0) (h1:Rd (Sl 2 oV) w v1 f1 b1):Rd (kK 2 xH) w (.agg #[.int .i64 f0,v1]) (Template.mk f0 f1) (b1):=
  ⟨xH.mk' (x:=⟨f0,f1⟩) h0 h1.r,h1.m⟩
theorem xH.blk {w:World} {T:TypeId} {b:Nat} {f0:Int} {f1:List Rel} {v1:Value} {b1:List Nat} (K:eM w b #[.int .i64 f0,v1] T) (h0:xS f0) (h1:Rd (Sl 2 oV) w v1 f1 b1):Rd (Pt 2 xH) w (.pointer (some ⟨b,0,none⟩)) (Template.mk f0 f1) (b::(b1)):=by
  have hm:zK (b1) w:=h1.m;refine⟨⟨b,0,_,rfl,rfl,_,_,(K.cell (0+0)).trans rfl,h0,(K.cell (0+1)).trans rfl,h1.r,rfl⟩,fun c hc=>?_⟩
  rcases List.mem_cons.1 hc with rfl | hc
  · exact K.lt
  · exact hm c hc
instance:FrC 2 ROp:=⟨ROp.fr,fun w f x bs h=>by
  obtain⟨v1,b1,h0,k0,h1,k1,hbs⟩:=h
  exact(cB (cB nS h0 rfl) h1 k1.one)⟩
theorem ROp.mk2 {w:World} {f0:Int} {f1:List Int} {v1:Value} {b1:List Nat} (h0:xS f0) (h1:Rd (Sl 1 xI) w v1 f1 b1):Rd (kK 2 ROp) w (.agg #[.int .i64 f0,v1]) (Op.mk f0 f1) (b1):=
  ⟨ROp.mk' (x:=⟨f0,f1⟩) h0 h1.r,h1.m⟩
theorem ROp.blk {w:World} {T:TypeId} {b:Nat} {f0:Int} {f1:List Int} {v1:Value} {b1:List Nat} (K:eM w b #[.int .i64 f0,v1] T) (h0:xS f0) (h1:Rd (Sl 1 xI) w v1 f1 b1):Rd (Pt 2 ROp) w (.pointer (some ⟨b,0,none⟩)) (Op.mk f0 f1) (b::(b1)):=by
  have hm:zK (b1) w:=h1.m;refine⟨⟨b,0,_,rfl,rfl,_,_,(K.cell (0+0)).trans rfl,h0,(K.cell (0+1)).trans rfl,h1.r,rfl⟩,fun c hc=>?_⟩
  rcases List.mem_cons.1 hc with rfl | hc
  · exact K.lt
  · exact hm c hc
instance:FrC 2 zW:=⟨zW.fr,fun w f x bs h=>by
  obtain⟨v1,b1,h0,k0,h1,k1,hbs⟩:=h
  exact(cB (cB nS h0 rfl) h1 k1.one)⟩
theorem zW.rd {w:World} {v:Value} {x:Atom} {bs:List Nat} (h:Rd (kK 2 zW) w v x bs):∃ v1:Value,∃ b1:List Nat,v= .agg #[.int .i64 x.rel,v1]∧xS x.rel∧Rd (Sl 1 xI) w v1 x.args b1∧bs=b1:=by
  obtain⟨v1,b1,e,k0,k1,hbs⟩:=zW.open h.r;exact⟨v1,b1,e,k0,⟨k1,fun c hc=>h.m c (by rw[hbs];simp [hc])⟩,hbs⟩
theorem zW.mk2 {w:World} {f0:Int} {f1:List Int} {v1:Value} {b1:List Nat} (h0:xS f0) (h1:Rd (Sl 1 xI) w v1 f1 b1):Rd (kK 2 zW) w (.agg #[.int .i64 f0,v1]) (Atom.mk f0 f1) (b1):=
  ⟨zW.mk' (x:=⟨f0,f1⟩) h0 h1.r,h1.m⟩
theorem zW.blk {w:World} {T:TypeId} {b:Nat} {f0:Int} {f1:List Int} {v1:Value} {b1:List Nat} (K:eM w b #[.int .i64 f0,v1] T) (h0:xS f0) (h1:Rd (Sl 1 xI) w v1 f1 b1):Rd (Pt 2 zW) w (.pointer (some ⟨b,0,none⟩)) (Atom.mk f0 f1) (b::(b1)):=by
  have hm:zK (b1) w:=h1.m;refine⟨⟨b,0,_,rfl,rfl,_,_,(K.cell (0+0)).trans rfl,h0,(K.cell (0+1)).trans rfl,h1.r,rfl⟩,fun c hc=>?_⟩
  rcases List.mem_cons.1 hc with rfl | hc
  · exact K.lt
  · exact hm c hc
instance:FrC 3 aC:=⟨aC.fr,fun w f x bs h=>by
  obtain⟨v2,b2,h0,k0,h1,k1,h2,k2,hbs⟩:=h
  exact(cB (cB (cB nS h0 rfl) h1 rfl) h2 k2.one)⟩
theorem aC.mk2 {w:World} {f0:Int} {f1:Int} {f2:List Atom} {v2:Value} {b2:List Nat} (h0:xS f0) (h1:xS f1) (h2:Rd (Sl 2 zW) w v2 f2 b2):Rd (kK 3 aC) w (.agg #[.int .i64 f0,.int .i64 f1,v2]) (Formula.mk f0 f1 f2) (b2):=
  ⟨aC.mk' (x:=⟨f0,f1,f2⟩) h0 h1 h2.r,h2.m⟩
theorem aC.blk {w:World} {T:TypeId} {b:Nat} {f0:Int} {f1:Int} {f2:List Atom} {v2:Value} {b2:List Nat} (K:eM w b #[.int .i64 f0,.int .i64 f1,v2] T) (h0:xS f0) (h1:xS f1) (h2:Rd (Sl 2 zW) w v2 f2 b2):Rd (Pt 3 aC) w (.pointer (some ⟨b,0,none⟩)) (Formula.mk f0 f1 f2) (b::(b2)):=by
  have hm:zK (b2) w:=h2.m;refine⟨⟨b,0,_,rfl,rfl,_,_,(K.cell (0+0)).trans rfl,h0,(K.cell (0+1)).trans rfl,h1,(K.cell (0+2)).trans rfl,h2.r,rfl⟩,fun c hc=>?_⟩
  rcases List.mem_cons.1 hc with rfl | hc
  · exact K.lt
  · exact hm c hc
instance:FrC 2 oR:=⟨oR.fr,fun w f x bs h=>by
  obtain⟨v1,b1,h0,k0,h1,k1,hbs⟩:=h
  exact(cB (cB nS h0 rfl) h1 k1.one)⟩
theorem oR.f0 {w:World} {y:Con}:∀ f bi,oR w f y bi→∃ bj,xI w (fun j=>f (0+j)) y.rel bj∧∀ c∈bj,c∈bi:=fun f bi h=>by
  obtain⟨v1,b1,h0,k0,h1,k1,hbs⟩:=h;exact⟨[],⟨by simpa using h0,k0,rfl⟩,fun c hc=>nomatch hc⟩
theorem oR.f1 {w:World} {y:Con}:∀ f bi,oR w f y bi→∃ bj,(vQ 1 xI) w (fun j=>f (1+j)) y.scope bj∧∀ c∈bj,c∈bi:=fun f bi h=>by
  obtain⟨v1,b1,h0,k0,h1,k1,hbs⟩:=h;exact⟨b1,⟨v1,by simpa using h1,k1⟩,fun c hc=>by rw[hbs];simp [hc]⟩
theorem oR.rd {w:World} {v:Value} {x:Con} {bs:List Nat} (h:Rd (kK 2 oR) w v x bs):∃ v1:Value,∃ b1:List Nat,v= .agg #[.int .i64 x.rel,v1]∧xS x.rel∧Rd (Sl 1 xI) w v1 x.scope b1∧bs=b1:=by
  obtain⟨v1,b1,e,k0,k1,hbs⟩:=oR.open h.r;exact⟨v1,b1,e,k0,⟨k1,fun c hc=>h.m c (by rw[hbs];simp [hc])⟩,hbs⟩
theorem oR.mk2 {w:World} {f0:Int} {f1:List Int} {v1:Value} {b1:List Nat} (h0:xS f0) (h1:Rd (Sl 1 xI) w v1 f1 b1):Rd (kK 2 oR) w (.agg #[.int .i64 f0,v1]) (Con.mk f0 f1) (b1):=
  ⟨oR.mk' (x:=⟨f0,f1⟩) h0 h1.r,h1.m⟩
theorem oR.blk {w:World} {T:TypeId} {b:Nat} {f0:Int} {f1:List Int} {v1:Value} {b1:List Nat} (K:eM w b #[.int .i64 f0,v1] T) (h0:xS f0) (h1:Rd (Sl 1 xI) w v1 f1 b1):Rd (Pt 2 oR) w (.pointer (some ⟨b,0,none⟩)) (Con.mk f0 f1) (b::(b1)):=by
  have hm:zK (b1) w:=h1.m;refine⟨⟨b,0,_,rfl,rfl,_,_,(K.cell (0+0)).trans rfl,h0,(K.cell (0+1)).trans rfl,h1.r,rfl⟩,fun c hc=>?_⟩
  rcases List.mem_cons.1 hc with rfl | hc
  · exact K.lt
  · exact hm c hc
instance:FrC 2 xK:=⟨xK.fr,fun w f x bs h=>by
  obtain⟨v1,b1,h0,k0,h1,k1,hbs⟩:=h
  exact(cB (cB nS h0 rfl) h1 k1.one)⟩
theorem xK.f0 {w:World} {y:Instance}:∀ f bi,xK w f y bi→∃ bj,xI w (fun j=>f (0+j)) y.vars bj∧∀ c∈bj,c∈bi:=fun f bi h=>by
  obtain⟨v1,b1,h0,k0,h1,k1,hbs⟩:=h;exact⟨[],⟨by simpa using h0,k0,rfl⟩,fun c hc=>nomatch hc⟩
theorem xK.f1 {w:World} {y:Instance}:∀ f bi,xK w f y bi→∃ bj,(vQ 2 oR) w (fun j=>f (1+j)) y.cons bj∧∀ c∈bj,c∈bi:=fun f bi h=>by
  obtain⟨v1,b1,h0,k0,h1,k1,hbs⟩:=h;exact⟨b1,⟨v1,by simpa using h1,k1⟩,fun c hc=>by rw[hbs];simp [hc]⟩
theorem xK.rd {w:World} {v:Value} {x:Instance} {bs:List Nat} (h:Rd (kK 2 xK) w v x bs):∃ v1:Value,∃ b1:List Nat,v= .agg #[.int .i64 x.vars,v1]∧xS x.vars∧Rd (Sl 2 oR) w v1 x.cons b1∧bs=b1:=by
  obtain⟨v1,b1,e,k0,k1,hbs⟩:=xK.open h.r;exact⟨v1,b1,e,k0,⟨k1,fun c hc=>h.m c (by rw[hbs];simp [hc])⟩,hbs⟩
theorem xK.mk2 {w:World} {f0:Int} {f1:List Con} {v1:Value} {b1:List Nat} (h0:xS f0) (h1:Rd (Sl 2 oR) w v1 f1 b1):Rd (kK 2 xK) w (.agg #[.int .i64 f0,v1]) (Instance.mk f0 f1) (b1):=
  ⟨xK.mk' (x:=⟨f0,f1⟩) h0 h1.r,h1.m⟩
theorem xK.blk {w:World} {T:TypeId} {b:Nat} {f0:Int} {f1:List Con} {v1:Value} {b1:List Nat} (K:eM w b #[.int .i64 f0,v1] T) (h0:xS f0) (h1:Rd (Sl 2 oR) w v1 f1 b1):Rd (Pt 2 xK) w (.pointer (some ⟨b,0,none⟩)) (Instance.mk f0 f1) (b::(b1)):=by
  have hm:zK (b1) w:=h1.m;refine⟨⟨b,0,_,rfl,rfl,_,_,(K.cell (0+0)).trans rfl,h0,(K.cell (0+1)).trans rfl,h1.r,rfl⟩,fun c hc=>?_⟩
  rcases List.mem_cons.1 hc with rfl | hc
  · exact K.lt
  · exact hm c hc
instance:FrC 3 qH:=⟨qH.fr,fun w f x bs h=>by
  obtain⟨h0,k0,h1,k1,h2,k2,hbs⟩:=h
  exact(cB (cB (cB nS h0 rfl) h1 rfl) h2 rfl)⟩
theorem qH.f0 {w:World} {y:ArcStep}:∀ f bi,qH w f y bi→∃ bj,xI w (fun j=>f (0+j)) y.var bj∧∀ c∈bj,c∈bi:=fun f bi h=>by
  obtain⟨h0,k0,h1,k1,h2,k2,hbs⟩:=h;exact⟨[],⟨by simpa using h0,k0,rfl⟩,fun c hc=>nomatch hc⟩
theorem qH.f1 {w:World} {y:ArcStep}:∀ f bi,qH w f y bi→∃ bj,xI w (fun j=>f (1+j)) y.value bj∧∀ c∈bj,c∈bi:=fun f bi h=>by
  obtain⟨h0,k0,h1,k1,h2,k2,hbs⟩:=h;exact⟨[],⟨by simpa using h1,k1,rfl⟩,fun c hc=>nomatch hc⟩
theorem qH.f2 {w:World} {y:ArcStep}:∀ f bi,qH w f y bi→∃ bj,xI w (fun j=>f (2+j)) y.con bj∧∀ c∈bj,c∈bi:=fun f bi h=>by
  obtain⟨h0,k0,h1,k1,h2,k2,hbs⟩:=h;exact⟨[],⟨by simpa using h2,k2,rfl⟩,fun c hc=>nomatch hc⟩
theorem qH.rd {w:World} {v:Value} {x:ArcStep} {bs:List Nat} (h:Rd (kK 3 qH) w v x bs):v= .agg #[.int .i64 x.var,.int .i64 x.value,.int .i64 x.con]∧xS x.var∧xS x.value∧xS x.con∧bs=[]:=by
  obtain⟨e,k0,k1,k2,hbs⟩:=qH.open h.r;exact⟨e,k0,k1,k2,hbs⟩
theorem qH.mk2 {w:World} {f0:Int} {f1:Int} {f2:Int}  (h0:xS f0) (h1:xS f1) (h2:xS f2):Rd (kK 3 qH) w (.agg #[.int .i64 f0,.int .i64 f1,.int .i64 f2]) (ArcStep.mk f0 f1 f2) ([]):=
  ⟨qH.mk' (x:=⟨f0,f1,f2⟩) h0 h1 h2,zK.nil w⟩
theorem qH.blk {w:World} {T:TypeId} {b:Nat} {f0:Int} {f1:Int} {f2:Int}  (K:eM w b #[.int .i64 f0,.int .i64 f1,.int .i64 f2] T) (h0:xS f0) (h1:xS f1) (h2:xS f2):Rd (Pt 3 qH) w (.pointer (some ⟨b,0,none⟩)) (ArcStep.mk f0 f1 f2) (b::([])):=by
  have hm:zK ([]) w:=zK.nil w;refine⟨⟨b,0,_,rfl,rfl,(K.cell (0+0)).trans rfl,h0,(K.cell (0+1)).trans rfl,h1,(K.cell (0+2)).trans rfl,h2,rfl⟩,fun c hc=>?_⟩
  rcases List.mem_cons.1 hc with rfl | hc
  · exact K.lt
  · exact hm c hc
instance:FrC 3 kA:=⟨kA.fr,fun w f x bs h=>by
  obtain⟨h0,k0,h1,k1,h2,k2,hbs⟩:=h
  exact(cB (cB (cB nS h0 rfl) h1 rfl) h2 rfl)⟩
theorem kA.mk2 {w:World} {f0:Int} {f1:Int} {f2:Int}  (h0:xS f0) (h1:xS f1) (h2:xS f2):Rd (kK 3 kA) w (.agg #[.int .i64 f0,.int .i64 f1,.int .i64 f2]) (PairStep.mk f0 f1 f2) ([]):=
  ⟨kA.mk' (x:=⟨f0,f1,f2⟩) h0 h1 h2,zK.nil w⟩
theorem kA.blk {w:World} {T:TypeId} {b:Nat} {f0:Int} {f1:Int} {f2:Int}  (K:eM w b #[.int .i64 f0,.int .i64 f1,.int .i64 f2] T) (h0:xS f0) (h1:xS f1) (h2:xS f2):Rd (Pt 3 kA) w (.pointer (some ⟨b,0,none⟩)) (PairStep.mk f0 f1 f2) (b::([])):=by
  have hm:zK ([]) w:=zK.nil w;refine⟨⟨b,0,_,rfl,rfl,(K.cell (0+0)).trans rfl,h0,(K.cell (0+1)).trans rfl,h1,(K.cell (0+2)).trans rfl,h2,rfl⟩,fun c hc=>?_⟩
  rcases List.mem_cons.1 hc with rfl | hc
  · exact K.lt
  · exact hm c hc
instance:FrC 5 cA:=⟨cA.fr,fun w f x bs h=>by
  obtain⟨v1,v2,v3,v4,b1,b2,b3,b4,h0,k0,h1,k1,h2,k2,h3,k3,h4,k4,hbs⟩:=h
  exact(cB (cB (cB (cB (cB nS h0 rfl) h1 k1.one) h2 k2.one) h3 k3.one) h4 k4.one)⟩
theorem cA.mk2 {w:World} {f0:Int} {f1:List Int} {f2:List ArcStep} {f3:List PairStep} {f4:List Int} {v1:Value} {b1:List Nat} {v2:Value} {b2:List Nat} {v3:Value} {b3:List Nat} {v4:Value} {b4:List Nat} (h0:xS f0) (h1:Rd (Sl 1 xI) w v1 f1 b1) (h2:Rd (Sl 3 qH) w v2 f2 b2) (h3:Rd (Sl 3 kA) w v3 f3 b3) (h4:Rd (Sl 1 xI) w v4 f4 b4):Rd (kK 5 cA) w (.agg #[.int .i64 f0,v1,v2,v3,v4]) (Verdict.mk f0 f1 f2 f3 f4) (b1++b2++b3++b4):=
  ⟨cA.mk' (x:=⟨f0,f1,f2,f3,f4⟩) h0 h1.r h2.r h3.r h4.r,(((h1.m).append h2.m).append h3.m).append h4.m⟩
theorem cA.blk {w:World} {T:TypeId} {b:Nat} {f0:Int} {f1:List Int} {f2:List ArcStep} {f3:List PairStep} {f4:List Int} {v1:Value} {b1:List Nat} {v2:Value} {b2:List Nat} {v3:Value} {b3:List Nat} {v4:Value} {b4:List Nat} (K:eM w b #[.int .i64 f0,v1,v2,v3,v4] T) (h0:xS f0) (h1:Rd (Sl 1 xI) w v1 f1 b1) (h2:Rd (Sl 3 qH) w v2 f2 b2) (h3:Rd (Sl 3 kA) w v3 f3 b3) (h4:Rd (Sl 1 xI) w v4 f4 b4):Rd (Pt 5 cA) w (.pointer (some ⟨b,0,none⟩)) (Verdict.mk f0 f1 f2 f3 f4) (b::(b1++b2++b3++b4)):=by
  have hm:zK (b1++b2++b3++b4) w:=(((h1.m).append h2.m).append h3.m).append h4.m;refine⟨⟨b,0,_,rfl,rfl,_,_,_,_,_,_,_,_,(K.cell (0+0)).trans rfl,h0,(K.cell (0+1)).trans rfl,h1.r,(K.cell (0+2)).trans rfl,h2.r,(K.cell (0+3)).trans rfl,h3.r,(K.cell (0+4)).trans rfl,h4.r,rfl⟩,fun c hc=>?_⟩
  rcases List.mem_cons.1 hc with rfl | hc
  · exact K.lt
  · exact hm c hc
instance:FrC 2 aT:=⟨aT.fr,fun w f x bs h=>by
  obtain⟨v0,b0,h0,k0,h1,k1,hbs⟩:=h
  exact(cB (cB nS h0 k0.one) h1 rfl)⟩
theorem aT.mk2 {w:World} {f0:List Int} {f1:Int} {v0:Value} {b0:List Nat} (h0:Rd (Sl 1 xI) w v0 f0 b0) (h1:xS f1):Rd (kK 2 aT) w (.agg #[v0,.int .i64 f1]) (Equation.mk f0 f1) (b0):=
  ⟨aT.mk' (x:=⟨f0,f1⟩) h0.r h1,h0.m⟩
theorem aT.blk {w:World} {T:TypeId} {b:Nat} {f0:List Int} {f1:Int} {v0:Value} {b0:List Nat} (K:eM w b #[v0,.int .i64 f1] T) (h0:Rd (Sl 1 xI) w v0 f0 b0) (h1:xS f1):Rd (Pt 2 aT) w (.pointer (some ⟨b,0,none⟩)) (Equation.mk f0 f1) (b::(b0)):=by
  have hm:zK (b0) w:=h0.m;refine⟨⟨b,0,_,rfl,rfl,_,_,(K.cell (0+0)).trans rfl,h0.r,(K.cell (0+1)).trans rfl,h1,rfl⟩,fun c hc=>?_⟩
  rcases List.mem_cons.1 hc with rfl | hc
  · exact K.lt
  · exact hm c hc
instance:FrC 4 qY:=⟨qY.fr,fun w f x bs h=>by
  obtain⟨h0,k0,h1,k1,h2,k2,h3,k3,hbs⟩:=h
  exact(cB (cB (cB (cB nS h0 rfl) h1 rfl) h2 rfl) h3 rfl)⟩
theorem qY.rd {w:World} {v:Value} {x:Line} {bs:List Nat} (h:Rd (kK 4 qY) w v x bs):v= .agg #[.int .i64 x.kind,.int .i64 x.var,.int .i64 x.value,.int .i64 x.con]∧xS x.kind∧xS x.var∧xS x.value∧xS x.con∧bs=[]:=by
  obtain⟨e,k0,k1,k2,k3,hbs⟩:=qY.open h.r;exact⟨e,k0,k1,k2,k3,hbs⟩
theorem qY.mk2 {w:World} {f0:Int} {f1:Int} {f2:Int} {f3:Int}  (h0:xS f0) (h1:xS f1) (h2:xS f2) (h3:xS f3):Rd (kK 4 qY) w (.agg #[.int .i64 f0,.int .i64 f1,.int .i64 f2,.int .i64 f3]) (Line.mk f0 f1 f2 f3) ([]):=
  ⟨qY.mk' (x:=⟨f0,f1,f2,f3⟩) h0 h1 h2 h3,zK.nil w⟩
theorem qY.blk {w:World} {T:TypeId} {b:Nat} {f0:Int} {f1:Int} {f2:Int} {f3:Int}  (K:eM w b #[.int .i64 f0,.int .i64 f1,.int .i64 f2,.int .i64 f3] T) (h0:xS f0) (h1:xS f1) (h2:xS f2) (h3:xS f3):Rd (Pt 4 qY) w (.pointer (some ⟨b,0,none⟩)) (Line.mk f0 f1 f2 f3) (b::([])):=by
  have hm:zK ([]) w:=zK.nil w;refine⟨⟨b,0,_,rfl,rfl,(K.cell (0+0)).trans rfl,h0,(K.cell (0+1)).trans rfl,h1,(K.cell (0+2)).trans rfl,h2,(K.cell (0+3)).trans rfl,h3,rfl⟩,fun c hc=>?_⟩
  rcases List.mem_cons.1 hc with rfl | hc
  · exact K.lt
  · exact hm c hc
instance:FrC 2 xU:=⟨xU.fr,fun w f x bs h=>by
  obtain⟨h0,k0,h1,k1,hbs⟩:=h
  exact(cB (cB nS h0 rfl) h1 rfl)⟩
theorem xU.f0 {w:World} {y:Literal}:∀ f bi,xU w f y bi→∃ bj,xI w (fun j=>f (0+j)) y.var bj∧∀ c∈bj,c∈bi:=fun f bi h=>by
  obtain⟨h0,k0,h1,k1,hbs⟩:=h;exact⟨[],⟨by simpa using h0,k0,rfl⟩,fun c hc=>nomatch hc⟩
theorem xU.f1 {w:World} {y:Literal}:∀ f bi,xU w f y bi→∃ bj,xI w (fun j=>f (1+j)) y.value bj∧∀ c∈bj,c∈bi:=fun f bi h=>by
  obtain⟨h0,k0,h1,k1,hbs⟩:=h;exact⟨[],⟨by simpa using h1,k1,rfl⟩,fun c hc=>nomatch hc⟩
theorem xU.rd {w:World} {v:Value} {x:Literal} {bs:List Nat} (h:Rd (kK 2 xU) w v x bs):v= .agg #[.int .i64 x.var,.int .i64 x.value]∧xS x.var∧xS x.value∧bs=[]:=by
  obtain⟨e,k0,k1,hbs⟩:=xU.open h.r;exact⟨e,k0,k1,hbs⟩
theorem xU.mk2 {w:World} {f0:Int} {f1:Int}  (h0:xS f0) (h1:xS f1):Rd (kK 2 xU) w (.agg #[.int .i64 f0,.int .i64 f1]) (Literal.mk f0 f1) ([]):=
  ⟨xU.mk' (x:=⟨f0,f1⟩) h0 h1,zK.nil w⟩
theorem xU.blk {w:World} {T:TypeId} {b:Nat} {f0:Int} {f1:Int}  (K:eM w b #[.int .i64 f0,.int .i64 f1] T) (h0:xS f0) (h1:xS f1):Rd (Pt 2 xU) w (.pointer (some ⟨b,0,none⟩)) (Literal.mk f0 f1) (b::([])):=by
  have hm:zK ([]) w:=zK.nil w;refine⟨⟨b,0,_,rfl,rfl,(K.cell (0+0)).trans rfl,h0,(K.cell (0+1)).trans rfl,h1,rfl⟩,fun c hc=>?_⟩
  rcases List.mem_cons.1 hc with rfl | hc
  · exact K.lt
  · exact hm c hc
instance:FrC 1 bX:=⟨bX.fr,fun w f x bs h=>by
  obtain⟨v0,b0,h0,k0,hbs⟩:=h
  exact(cB nS h0 k0.one)⟩
theorem bX.mk2 {w:World} {f0:List Formula} {v0:Value} {b0:List Nat} (h0:Rd (Sl 3 aC) w v0 f0 b0):Rd (kK 1 bX) w (.agg #[v0]) (Gadgets.mk f0) (b0):=
  ⟨bX.mk' (x:=⟨f0⟩) h0.r,h0.m⟩
theorem bX.blk {w:World} {T:TypeId} {b:Nat} {f0:List Formula} {v0:Value} {b0:List Nat} (K:eM w b #[v0] T) (h0:Rd (Sl 3 aC) w v0 f0 b0):Rd (Pt 1 bX) w (.pointer (some ⟨b,0,none⟩)) (Gadgets.mk f0) (b::(b0)):=by
  have hm:zK (b0) w:=h0.m;refine⟨⟨b,0,_,rfl,rfl,_,_,(K.cell (0+0)).trans rfl,h0.r,rfl⟩,fun c hc=>?_⟩
  rcases List.mem_cons.1 hc with rfl | hc
  · exact K.lt
  · exact hm c hc
instance:FrC 3 jA:=⟨jA.fr,fun w f x bs h=>by
  obtain⟨h0,k0,h1,k1,h2,k2,hbs⟩:=h
  exact(cB (cB (cB nS h0 rfl) h1 rfl) h2 rfl)⟩
theorem jA.mk2 {w:World} {f0:Int} {f1:Int} {f2:Int}  (h0:xS f0) (h1:xS f1) (h2:xS f2):Rd (kK 3 jA) w (.agg #[.int .i64 f0,.int .i64 f1,.int .i64 f2]) (Deed.mk f0 f1 f2) ([]):=
  ⟨jA.mk' (x:=⟨f0,f1,f2⟩) h0 h1 h2,zK.nil w⟩
theorem jA.blk {w:World} {T:TypeId} {b:Nat} {f0:Int} {f1:Int} {f2:Int}  (K:eM w b #[.int .i64 f0,.int .i64 f1,.int .i64 f2] T) (h0:xS f0) (h1:xS f1) (h2:xS f2):Rd (Pt 3 jA) w (.pointer (some ⟨b,0,none⟩)) (Deed.mk f0 f1 f2) (b::([])):=by
  have hm:zK ([]) w:=zK.nil w;refine⟨⟨b,0,_,rfl,rfl,(K.cell (0+0)).trans rfl,h0,(K.cell (0+1)).trans rfl,h1,(K.cell (0+2)).trans rfl,h2,rfl⟩,fun c hc=>?_⟩
  rcases List.mem_cons.1 hc with rfl | hc
  · exact K.lt
  · exact hm c hc
theorem xOt {w:World} {T:TypeId} {b:Nat} {x:Int} (K:eM w b #[.int .i64 x] T) (h:xS x):Rd (Pt 1 xI) w (.pointer (some ⟨b,0,none⟩)) x [b]:=
  ⟨⟨b,0,[],rfl,rfl,(K.cell (0+0)).trans rfl,h,rfl⟩,fun c hc=>by rw[List.mem_singleton] at hc;subst hc;exact K.lt⟩
theorem xOe {α:Type} {sz:Nat} {R:ER α} {w:World} {T:TypeId} {b:Nat} {v:Value} {x:List α} {bs:List Nat} (K:eM w b #[v] T) (h:Rd (Sl sz R) w v x bs):Rd (Pt 1 (vQ sz R)) w (.pointer (some ⟨b,0,none⟩)) x (b::bs):=
  ⟨⟨b,0,_,rfl,rfl,v,(K.cell (0+0)).trans rfl,h.r⟩,fun c hc=>by
    rcases List.mem_cons.1 hc with rfl | hc
    · exact K.lt
    · exact h.m c hc⟩
end Go.Proofs.YtncganhbpbehaaaGreat
