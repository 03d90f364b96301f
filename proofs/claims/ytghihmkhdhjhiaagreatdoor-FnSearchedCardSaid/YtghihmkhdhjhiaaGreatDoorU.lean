import Derived.Test.YtghihmkhdhjhiaaGreatDoorH
import Derived.Test.YtghihmkhdhjhiaaGreatDoorT
namespace Go.Proofs.YtghihmkhdhjhiaaGreatDoor
set_option linter.unusedVariables false
set_option linter.unusedSimpArgs false
open Go.RowKit
theorem bD {n:Nat} {f:Nat→Option Value} (h:∀ j,j<n→∃ v:Value,f j=some v∧v.oneCell'=true) {u:Value} (e:f n=some u) (hu:u.oneCell'=true):∀ j,j<n+1→∃ v:Value,f j=some v∧v.oneCell'=true:=fun j hj=>by
  by_cases hjn:j=n
  · subst hjn;exact⟨u,e,hu⟩
  · exact h j (by omega)
theorem mD {f:Nat→Option Value}:∀ j,j<0→∃ v:Value,f j=some v∧v.oneCell'=true:=fun j hj=>by omega
theorem Sl.one {α:Type} {sz:Nat} {R:ER α} {w:World} {v:Value} {l:List α} {bs:List Nat} (h:Sl sz R w v l bs):v.oneCell'=true:=by obtain⟨a,c,rfl⟩:=h.val;rfl
instance:FrC 2 qG:=⟨qG.fr,fun w f x bs h=>by
  obtain⟨v1,b1,h0,k0,h1,k1,hbs⟩:=h
  exact(bD (bD mD h0 rfl) h1 k1.one)⟩
theorem qG.f0 {w:World} {y:Rel}:∀ f bi,qG w f y bi→∃ bj,xI w (fun j=>f (0+j)) y.arity bj∧∀ c∈bj,c∈bi:=fun f bi h=>by
  obtain⟨v1,b1,h0,k0,h1,k1,hbs⟩:=h;exact⟨[],⟨by simpa using h0,k0,rfl⟩,fun c hc=>nomatch hc⟩
theorem qG.f1 {w:World} {y:Rel}:∀ f bi,qG w f y bi→∃ bj,(qK 1 gH) w (fun j=>f (1+j)) y.tuples bj∧∀ c∈bj,c∈bi:=fun f bi h=>by
  obtain⟨v1,b1,h0,k0,h1,k1,hbs⟩:=h;exact⟨b1,⟨v1,by simpa using h1,k1⟩,fun c hc=>by rw[hbs];simp [hc]⟩
theorem qG.rd {w:World} {v:Value} {x:Rel} {bs:List Nat} (h:Rd (kJ 2 qG) w v x bs):∃ v1:Value,∃ b1:List Nat,v= .agg #[.int .i64 x.arity,v1]∧xO x.arity∧Rd (Sl 1 gH) w v1 x.tuples b1∧bs=b1:=by
  obtain⟨v1,b1,e,k0,k1,hbs⟩:=qG.open h.r;exact⟨v1,b1,e,k0,⟨k1,fun c hc=>h.m c (by rw[hbs];simp [hc])⟩,hbs⟩
theorem qG.mk2 {w:World} {f0:Int} {f1:List (List Int)} {v1:Value} {b1:List Nat} (h0:xO f0) (h1:Rd (Sl 1 gH) w v1 f1 b1):Rd (kJ 2 qG) w (.agg #[.int .i64 f0,v1]) (Rel.mk f0 f1) (b1):=
  ⟨qG.mk' (x:=⟨f0,f1⟩) h0 h1.r,h1.m⟩
theorem qG.blk {w:World} {T:TypeId} {b:Nat} {f0:Int} {f1:List (List Int)} {v1:Value} {b1:List Nat} (K:eZ w b #[.int .i64 f0,v1] T) (h0:xO f0) (h1:Rd (Sl 1 gH) w v1 f1 b1):Rd (Pt 2 qG) w (.pointer (some ⟨b,0,none⟩)) (Rel.mk f0 f1) (b::(b1)):=by
  have hm:vZ (b1) w:=h1.m;refine⟨⟨b,0,_,rfl,rfl,_,_,(K.cell (0+0)).trans rfl,h0,(K.cell (0+1)).trans rfl,h1.r,rfl⟩,fun c hc=>?_⟩
  rcases List.mem_cons.1 hc with rfl | hc
  · exact K.lt
  · exact hm c hc
instance:FrC 2 xJ:=⟨xJ.fr,fun w f x bs h=>by
  obtain⟨v1,b1,h0,k0,h1,k1,hbs⟩:=h
  exact(bD (bD mD h0 rfl) h1 k1.one)⟩
theorem xJ.f0 {w:World} {y:Template}:∀ f bi,xJ w f y bi→∃ bj,xI w (fun j=>f (0+j)) y.size bj∧∀ c∈bj,c∈bi:=fun f bi h=>by
  obtain⟨v1,b1,h0,k0,h1,k1,hbs⟩:=h;exact⟨[],⟨by simpa using h0,k0,rfl⟩,fun c hc=>nomatch hc⟩
theorem xJ.f1 {w:World} {y:Template}:∀ f bi,xJ w f y bi→∃ bj,(qK 2 qG) w (fun j=>f (1+j)) y.rels bj∧∀ c∈bj,c∈bi:=fun f bi h=>by
  obtain⟨v1,b1,h0,k0,h1,k1,hbs⟩:=h;exact⟨b1,⟨v1,by simpa using h1,k1⟩,fun c hc=>by rw[hbs];simp [hc]⟩
theorem xJ.rd {w:World} {v:Value} {x:Template} {bs:List Nat} (h:Rd (kJ 2 xJ) w v x bs):∃ v1:Value,∃ b1:List Nat,v= .agg #[.int .i64 x.size,v1]∧xO x.size∧Rd (Sl 2 qG) w v1 x.rels b1∧bs=b1:=by
  obtain⟨v1,b1,e,k0,k1,hbs⟩:=xJ.open h.r;exact⟨v1,b1,e,k0,⟨k1,fun c hc=>h.m c (by rw[hbs];simp [hc])⟩,hbs⟩
theorem xJ.mk2 {w:World} {f0:Int} {f1:List Rel} {v1:Value} {b1:List Nat} (h0:xO f0) (h1:Rd (Sl 2 qG) w v1 f1 b1):Rd (kJ 2 xJ) w (.agg #[.int .i64 f0,v1]) (Template.mk f0 f1) (b1):=
  ⟨xJ.mk' (x:=⟨f0,f1⟩) h0 h1.r,h1.m⟩
theorem xJ.blk {w:World} {T:TypeId} {b:Nat} {f0:Int} {f1:List Rel} {v1:Value} {b1:List Nat} (K:eZ w b #[.int .i64 f0,v1] T) (h0:xO f0) (h1:Rd (Sl 2 qG) w v1 f1 b1):Rd (Pt 2 xJ) w (.pointer (some ⟨b,0,none⟩)) (Template.mk f0 f1) (b::(b1)):=by
  have hm:vZ (b1) w:=h1.m;refine⟨⟨b,0,_,rfl,rfl,_,_,(K.cell (0+0)).trans rfl,h0,(K.cell (0+1)).trans rfl,h1.r,rfl⟩,fun c hc=>?_⟩
  rcases List.mem_cons.1 hc with rfl | hc
  · exact K.lt
  · exact hm c hc
instance:FrC 2 ROp:=⟨ROp.fr,fun w f x bs h=>by
  obtain⟨v1,b1,h0,k0,h1,k1,hbs⟩:=h
  exact(bD (bD mD h0 rfl) h1 k1.one)⟩
theorem ROp.mk2 {w:World} {f0:Int} {f1:List Int} {v1:Value} {b1:List Nat} (h0:xO f0) (h1:Rd (Sl 1 xI) w v1 f1 b1):Rd (kJ 2 ROp) w (.agg #[.int .i64 f0,v1]) (Op.mk f0 f1) (b1):=
  ⟨ROp.mk' (x:=⟨f0,f1⟩) h0 h1.r,h1.m⟩
theorem ROp.blk {w:World} {T:TypeId} {b:Nat} {f0:Int} {f1:List Int} {v1:Value} {b1:List Nat} (K:eZ w b #[.int .i64 f0,v1] T) (h0:xO f0) (h1:Rd (Sl 1 xI) w v1 f1 b1):Rd (Pt 2 ROp) w (.pointer (some ⟨b,0,none⟩)) (Op.mk f0 f1) (b::(b1)):=by
  have hm:vZ (b1) w:=h1.m;refine⟨⟨b,0,_,rfl,rfl,_,_,(K.cell (0+0)).trans rfl,h0,(K.cell (0+1)).trans rfl,h1.r,rfl⟩,fun c hc=>?_⟩
  rcases List.mem_cons.1 hc with rfl | hc
  · exact K.lt
  · exact hm c hc
instance:FrC 2 cL:=⟨cL.fr,fun w f x bs h=>by
  obtain⟨v1,b1,h0,k0,h1,k1,hbs⟩:=h
  exact(bD (bD mD h0 rfl) h1 k1.one)⟩
theorem cL.mk2 {w:World} {f0:Int} {f1:List Int} {v1:Value} {b1:List Nat} (h0:xO f0) (h1:Rd (Sl 1 xI) w v1 f1 b1):Rd (kJ 2 cL) w (.agg #[.int .i64 f0,v1]) (Atom.mk f0 f1) (b1):=
  ⟨cL.mk' (x:=⟨f0,f1⟩) h0 h1.r,h1.m⟩
theorem cL.blk {w:World} {T:TypeId} {b:Nat} {f0:Int} {f1:List Int} {v1:Value} {b1:List Nat} (K:eZ w b #[.int .i64 f0,v1] T) (h0:xO f0) (h1:Rd (Sl 1 xI) w v1 f1 b1):Rd (Pt 2 cL) w (.pointer (some ⟨b,0,none⟩)) (Atom.mk f0 f1) (b::(b1)):=by
  have hm:vZ (b1) w:=h1.m;refine⟨⟨b,0,_,rfl,rfl,_,_,(K.cell (0+0)).trans rfl,h0,(K.cell (0+1)).trans rfl,h1.r,rfl⟩,fun c hc=>?_⟩
  rcases List.mem_cons.1 hc with rfl | hc
  · exact K.lt
  · exact hm c hc
instance:FrC 3 kE:=⟨kE.fr,fun w f x bs h=>by
  obtain⟨v2,b2,h0,k0,h1,k1,h2,k2,hbs⟩:=h
  exact(bD (bD (bD mD h0 rfl) h1 rfl) h2 k2.one)⟩
theorem kE.mk2 {w:World} {f0:Int} {f1:Int} {f2:List Atom} {v2:Value} {b2:List Nat} (h0:xO f0) (h1:xO f1) (h2:Rd (Sl 2 cL) w v2 f2 b2):Rd (kJ 3 kE) w (.agg #[.int .i64 f0,.int .i64 f1,v2]) (Formula.mk f0 f1 f2) (b2):=
  ⟨kE.mk' (x:=⟨f0,f1,f2⟩) h0 h1 h2.r,h2.m⟩
theorem kE.blk {w:World} {T:TypeId} {b:Nat} {f0:Int} {f1:Int} {f2:List Atom} {v2:Value} {b2:List Nat} (K:eZ w b #[.int .i64 f0,.int .i64 f1,v2] T) (h0:xO f0) (h1:xO f1) (h2:Rd (Sl 2 cL) w v2 f2 b2):Rd (Pt 3 kE) w (.pointer (some ⟨b,0,none⟩)) (Formula.mk f0 f1 f2) (b::(b2)):=by
  have hm:vZ (b2) w:=h2.m;refine⟨⟨b,0,_,rfl,rfl,_,_,(K.cell (0+0)).trans rfl,h0,(K.cell (0+1)).trans rfl,h1,(K.cell (0+2)).trans rfl,h2.r,rfl⟩,fun c hc=>?_⟩
  rcases List.mem_cons.1 hc with rfl | hc
  · exact K.lt
  · exact hm c hc
instance:FrC 2 qH:=⟨qH.fr,fun w f x bs h=>by
  obtain⟨v1,b1,h0,k0,h1,k1,hbs⟩:=h
  exact(bD (bD mD h0 rfl) h1 k1.one)⟩
theorem qH.f0 {w:World} {y:Con}:∀ f bi,qH w f y bi→∃ bj,xI w (fun j=>f (0+j)) y.rel bj∧∀ c∈bj,c∈bi:=fun f bi h=>by
  obtain⟨v1,b1,h0,k0,h1,k1,hbs⟩:=h;exact⟨[],⟨by simpa using h0,k0,rfl⟩,fun c hc=>nomatch hc⟩
theorem qH.f1 {w:World} {y:Con}:∀ f bi,qH w f y bi→∃ bj,(qK 1 xI) w (fun j=>f (1+j)) y.scope bj∧∀ c∈bj,c∈bi:=fun f bi h=>by
  obtain⟨v1,b1,h0,k0,h1,k1,hbs⟩:=h;exact⟨b1,⟨v1,by simpa using h1,k1⟩,fun c hc=>by rw[hbs];simp [hc]⟩
theorem qH.rd {w:World} {v:Value} {x:Con} {bs:List Nat} (h:Rd (kJ 2 qH) w v x bs):∃ v1:Value,∃ b1:List Nat,v= .agg #[.int .i64 x.rel,v1]∧xO x.rel∧Rd (Sl 1 xI) w v1 x.scope b1∧bs=b1:=by
  obtain⟨v1,b1,e,k0,k1,hbs⟩:=qH.open h.r;exact⟨v1,b1,e,k0,⟨k1,fun c hc=>h.m c (by rw[hbs];simp [hc])⟩,hbs⟩
theorem qH.mk2 {w:World} {f0:Int} {f1:List Int} {v1:Value} {b1:List Nat} (h0:xO f0) (h1:Rd (Sl 1 xI) w v1 f1 b1):Rd (kJ 2 qH) w (.agg #[.int .i64 f0,v1]) (Con.mk f0 f1) (b1):=
  ⟨qH.mk' (x:=⟨f0,f1⟩) h0 h1.r,h1.m⟩
theorem qH.blk {w:World} {T:TypeId} {b:Nat} {f0:Int} {f1:List Int} {v1:Value} {b1:List Nat} (K:eZ w b #[.int .i64 f0,v1] T) (h0:xO f0) (h1:Rd (Sl 1 xI) w v1 f1 b1):Rd (Pt 2 qH) w (.pointer (some ⟨b,0,none⟩)) (Con.mk f0 f1) (b::(b1)):=by
  have hm:vZ (b1) w:=h1.m;refine⟨⟨b,0,_,rfl,rfl,_,_,(K.cell (0+0)).trans rfl,h0,(K.cell (0+1)).trans rfl,h1.r,rfl⟩,fun c hc=>?_⟩
  rcases List.mem_cons.1 hc with rfl | hc
  · exact K.lt
  · exact hm c hc
instance:FrC 2 xK:=⟨xK.fr,fun w f x bs h=>by
  obtain⟨v1,b1,h0,k0,h1,k1,hbs⟩:=h
  exact(bD (bD mD h0 rfl) h1 k1.one)⟩
theorem xK.f0 {w:World} {y:Instance}:∀ f bi,xK w f y bi→∃ bj,xI w (fun j=>f (0+j)) y.vars bj∧∀ c∈bj,c∈bi:=fun f bi h=>by
  obtain⟨v1,b1,h0,k0,h1,k1,hbs⟩:=h;exact⟨[],⟨by simpa using h0,k0,rfl⟩,fun c hc=>nomatch hc⟩
theorem xK.f1 {w:World} {y:Instance}:∀ f bi,xK w f y bi→∃ bj,(qK 2 qH) w (fun j=>f (1+j)) y.cons bj∧∀ c∈bj,c∈bi:=fun f bi h=>by
  obtain⟨v1,b1,h0,k0,h1,k1,hbs⟩:=h;exact⟨b1,⟨v1,by simpa using h1,k1⟩,fun c hc=>by rw[hbs];simp [hc]⟩
theorem xK.rd {w:World} {v:Value} {x:Instance} {bs:List Nat} (h:Rd (kJ 2 xK) w v x bs):∃ v1:Value,∃ b1:List Nat,v= .agg #[.int .i64 x.vars,v1]∧xO x.vars∧Rd (Sl 2 qH) w v1 x.cons b1∧bs=b1:=by
  obtain⟨v1,b1,e,k0,k1,hbs⟩:=xK.open h.r;exact⟨v1,b1,e,k0,⟨k1,fun c hc=>h.m c (by rw[hbs];simp [hc])⟩,hbs⟩
theorem xK.mk2 {w:World} {f0:Int} {f1:List Con} {v1:Value} {b1:List Nat} (h0:xO f0) (h1:Rd (Sl 2 qH) w v1 f1 b1):Rd (kJ 2 xK) w (.agg #[.int .i64 f0,v1]) (Instance.mk f0 f1) (b1):=
  ⟨xK.mk' (x:=⟨f0,f1⟩) h0 h1.r,h1.m⟩
theorem xK.blk {w:World} {T:TypeId} {b:Nat} {f0:Int} {f1:List Con} {v1:Value} {b1:List Nat} (K:eZ w b #[.int .i64 f0,v1] T) (h0:xO f0) (h1:Rd (Sl 2 qH) w v1 f1 b1):Rd (Pt 2 xK) w (.pointer (some ⟨b,0,none⟩)) (Instance.mk f0 f1) (b::(b1)):=by
  have hm:vZ (b1) w:=h1.m;refine⟨⟨b,0,_,rfl,rfl,_,_,(K.cell (0+0)).trans rfl,h0,(K.cell (0+1)).trans rfl,h1.r,rfl⟩,fun c hc=>?_⟩
  rcases List.mem_cons.1 hc with rfl | hc
  · exact K.lt
  · exact hm c hc
instance:FrC 3 oU:=⟨oU.fr,fun w f x bs h=>by
  obtain⟨h0,k0,h1,k1,h2,k2,hbs⟩:=h
  exact(bD (bD (bD mD h0 rfl) h1 rfl) h2 rfl)⟩
theorem oU.f0 {w:World} {y:ArcStep}:∀ f bi,oU w f y bi→∃ bj,xI w (fun j=>f (0+j)) y.var bj∧∀ c∈bj,c∈bi:=fun f bi h=>by
  obtain⟨h0,k0,h1,k1,h2,k2,hbs⟩:=h;exact⟨[],⟨by simpa using h0,k0,rfl⟩,fun c hc=>nomatch hc⟩
theorem oU.f1 {w:World} {y:ArcStep}:∀ f bi,oU w f y bi→∃ bj,xI w (fun j=>f (1+j)) y.value bj∧∀ c∈bj,c∈bi:=fun f bi h=>by
  obtain⟨h0,k0,h1,k1,h2,k2,hbs⟩:=h;exact⟨[],⟨by simpa using h1,k1,rfl⟩,fun c hc=>nomatch hc⟩
theorem oU.f2 {w:World} {y:ArcStep}:∀ f bi,oU w f y bi→∃ bj,xI w (fun j=>f (2+j)) y.con bj∧∀ c∈bj,c∈bi:=fun f bi h=>by
  obtain⟨h0,k0,h1,k1,h2,k2,hbs⟩:=h;exact⟨[],⟨by simpa using h2,k2,rfl⟩,fun c hc=>nomatch hc⟩
theorem oU.rd {w:World} {v:Value} {x:ArcStep} {bs:List Nat} (h:Rd (kJ 3 oU) w v x bs):v= .agg #[.int .i64 x.var,.int .i64 x.value,.int .i64 x.con]∧xO x.var∧xO x.value∧xO x.con∧bs=[]:=by
  obtain⟨e,k0,k1,k2,hbs⟩:=oU.open h.r;exact⟨e,k0,k1,k2,hbs⟩
theorem oU.mk2 {w:World} {f0:Int} {f1:Int} {f2:Int}  (h0:xO f0) (h1:xO f1) (h2:xO f2):Rd (kJ 3 oU) w (.agg #[.int .i64 f0,.int .i64 f1,.int .i64 f2]) (ArcStep.mk f0 f1 f2) ([]):=
  ⟨oU.mk' (x:=⟨f0,f1,f2⟩) h0 h1 h2,vZ.nil w⟩
theorem oU.blk {w:World} {T:TypeId} {b:Nat} {f0:Int} {f1:Int} {f2:Int}  (K:eZ w b #[.int .i64 f0,.int .i64 f1,.int .i64 f2] T) (h0:xO f0) (h1:xO f1) (h2:xO f2):Rd (Pt 3 oU) w (.pointer (some ⟨b,0,none⟩)) (ArcStep.mk f0 f1 f2) (b::([])):=by
  have hm:vZ ([]) w:=vZ.nil w;refine⟨⟨b,0,_,rfl,rfl,(K.cell (0+0)).trans rfl,h0,(K.cell (0+1)).trans rfl,h1,(K.cell (0+2)).trans rfl,h2,rfl⟩,fun c hc=>?_⟩
  rcases List.mem_cons.1 hc with rfl | hc
  · exact K.lt
  · exact hm c hc
instance:FrC 3 zN:=⟨zN.fr,fun w f x bs h=>by
  obtain⟨h0,k0,h1,k1,h2,k2,hbs⟩:=h
  exact(bD (bD (bD mD h0 rfl) h1 rfl) h2 rfl)⟩
theorem zN.mk2 {w:World} {f0:Int} {f1:Int} {f2:Int}  (h0:xO f0) (h1:xO f1) (h2:xO f2):Rd (kJ 3 zN) w (.agg #[.int .i64 f0,.int .i64 f1,.int .i64 f2]) (PairStep.mk f0 f1 f2) ([]):=
  ⟨zN.mk' (x:=⟨f0,f1,f2⟩) h0 h1 h2,vZ.nil w⟩
theorem zN.blk {w:World} {T:TypeId} {b:Nat} {f0:Int} {f1:Int} {f2:Int}  (K:eZ w b #[.int .i64 f0,.int .i64 f1,.int .i64 f2] T) (h0:xO f0) (h1:xO f1) (h2:xO f2):Rd (Pt 3 zN) w (.pointer (some ⟨b,0,none⟩)) (PairStep.mk f0 f1 f2) (b::([])):=by
  have hm:vZ ([]) w:=vZ.nil w;refine⟨⟨b,0,_,rfl,rfl,(K.cell (0+0)).trans rfl,h0,(K.cell (0+1)).trans rfl,h1,(K.cell (0+2)).trans rfl,h2,rfl⟩,fun c hc=>?_⟩
  rcases List.mem_cons.1 hc with rfl | hc
  · exact K.lt
  · exact hm c hc
instance:FrC 5 aZ:=⟨aZ.fr,fun w f x bs h=>by
  obtain⟨v1,v2,v3,v4,b1,b2,b3,b4,h0,k0,h1,k1,h2,k2,h3,k3,h4,k4,hbs⟩:=h
  exact(bD (bD (bD (bD (bD mD h0 rfl) h1 k1.one) h2 k2.one) h3 k3.one) h4 k4.one)⟩
theorem aZ.mk2 {w:World} {f0:Int} {f1:List Int} {f2:List ArcStep} {f3:List PairStep} {f4:List Int} {v1:Value} {b1:List Nat} {v2:Value} {b2:List Nat} {v3:Value} {b3:List Nat} {v4:Value} {b4:List Nat} (h0:xO f0) (h1:Rd (Sl 1 xI) w v1 f1 b1) (h2:Rd (Sl 3 oU) w v2 f2 b2) (h3:Rd (Sl 3 zN) w v3 f3 b3) (h4:Rd (Sl 1 xI) w v4 f4 b4):Rd (kJ 5 aZ) w (.agg #[.int .i64 f0,v1,v2,v3,v4]) (Verdict.mk f0 f1 f2 f3 f4) (b1++b2++b3++b4):=
  ⟨aZ.mk' (x:=⟨f0,f1,f2,f3,f4⟩) h0 h1.r h2.r h3.r h4.r,(((h1.m).append h2.m).append h3.m).append h4.m⟩
theorem aZ.blk {w:World} {T:TypeId} {b:Nat} {f0:Int} {f1:List Int} {f2:List ArcStep} {f3:List PairStep} {f4:List Int} {v1:Value} {b1:List Nat} {v2:Value} {b2:List Nat} {v3:Value} {b3:List Nat} {v4:Value} {b4:List Nat} (K:eZ w b #[.int .i64 f0,v1,v2,v3,v4] T) (h0:xO f0) (h1:Rd (Sl 1 xI) w v1 f1 b1) (h2:Rd (Sl 3 oU) w v2 f2 b2) (h3:Rd (Sl 3 zN) w v3 f3 b3) (h4:Rd (Sl 1 xI) w v4 f4 b4):Rd (Pt 5 aZ) w (.pointer (some ⟨b,0,none⟩)) (Verdict.mk f0 f1 f2 f3 f4) (b::(b1++b2++b3++b4)):=by
  have hm:vZ (b1++b2++b3++b4) w:=(((h1.m).append h2.m).append h3.m).append h4.m;refine⟨⟨b,0,_,rfl,rfl,_,_,_,_,_,_,_,_,(K.cell (0+0)).trans rfl,h0,(K.cell (0+1)).trans rfl,h1.r,(K.cell (0+2)).trans rfl,h2.r,(K.cell (0+3)).trans rfl,h3.r,(K.cell (0+4)).trans rfl,h4.r,rfl⟩,fun c hc=>?_⟩
  rcases List.mem_cons.1 hc with rfl | hc
  · exact K.lt
  · exact hm c hc
instance:FrC 2 aH:=⟨aH.fr,fun w f x bs h=>by
  obtain⟨v0,b0,h0,k0,h1,k1,hbs⟩:=h
  exact(bD (bD mD h0 k0.one) h1 rfl)⟩
theorem aH.mk2 {w:World} {f0:List Int} {f1:Int} {v0:Value} {b0:List Nat} (h0:Rd (Sl 1 xI) w v0 f0 b0) (h1:xO f1):Rd (kJ 2 aH) w (.agg #[v0,.int .i64 f1]) (Equation.mk f0 f1) (b0):=
  ⟨aH.mk' (x:=⟨f0,f1⟩) h0.r h1,h0.m⟩
theorem aH.blk {w:World} {T:TypeId} {b:Nat} {f0:List Int} {f1:Int} {v0:Value} {b0:List Nat} (K:eZ w b #[v0,.int .i64 f1] T) (h0:Rd (Sl 1 xI) w v0 f0 b0) (h1:xO f1):Rd (Pt 2 aH) w (.pointer (some ⟨b,0,none⟩)) (Equation.mk f0 f1) (b::(b0)):=by
  have hm:vZ (b0) w:=h0.m;refine⟨⟨b,0,_,rfl,rfl,_,_,(K.cell (0+0)).trans rfl,h0.r,(K.cell (0+1)).trans rfl,h1,rfl⟩,fun c hc=>?_⟩
  rcases List.mem_cons.1 hc with rfl | hc
  · exact K.lt
  · exact hm c hc
instance:FrC 4 oP:=⟨oP.fr,fun w f x bs h=>by
  obtain⟨h0,k0,h1,k1,h2,k2,h3,k3,hbs⟩:=h
  exact(bD (bD (bD (bD mD h0 rfl) h1 rfl) h2 rfl) h3 rfl)⟩
theorem oP.rd {w:World} {v:Value} {x:Line} {bs:List Nat} (h:Rd (kJ 4 oP) w v x bs):v= .agg #[.int .i64 x.kind,.int .i64 x.var,.int .i64 x.value,.int .i64 x.con]∧xO x.kind∧xO x.var∧xO x.value∧xO x.con∧bs=[]:=by
  obtain⟨e,k0,k1,k2,k3,hbs⟩:=oP.open h.r;exact⟨e,k0,k1,k2,k3,hbs⟩
theorem oP.mk2 {w:World} {f0:Int} {f1:Int} {f2:Int} {f3:Int}  (h0:xO f0) (h1:xO f1) (h2:xO f2) (h3:xO f3):Rd (kJ 4 oP) w (.agg #[.int .i64 f0,.int .i64 f1,.int .i64 f2,.int .i64 f3]) (Line.mk f0 f1 f2 f3) ([]):=
  ⟨oP.mk' (x:=⟨f0,f1,f2,f3⟩) h0 h1 h2 h3,vZ.nil w⟩
theorem oP.blk {w:World} {T:TypeId} {b:Nat} {f0:Int} {f1:Int} {f2:Int} {f3:Int}  (K:eZ w b #[.int .i64 f0,.int .i64 f1,.int .i64 f2,.int .i64 f3] T) (h0:xO f0) (h1:xO f1) (h2:xO f2) (h3:xO f3):Rd (Pt 4 oP) w (.pointer (some ⟨b,0,none⟩)) (Line.mk f0 f1 f2 f3) (b::([])):=by
  have hm:vZ ([]) w:=vZ.nil w;refine⟨⟨b,0,_,rfl,rfl,(K.cell (0+0)).trans rfl,h0,(K.cell (0+1)).trans rfl,h1,(K.cell (0+2)).trans rfl,h2,(K.cell (0+3)).trans rfl,h3,rfl⟩,fun c hc=>?_⟩
  rcases List.mem_cons.1 hc with rfl | hc
  · exact K.lt
  · exact hm c hc
instance:FrC 2 oE:=⟨oE.fr,fun w f x bs h=>by
  obtain⟨h0,k0,h1,k1,hbs⟩:=h
  exact(bD (bD mD h0 rfl) h1 rfl)⟩
theorem oE.rd {w:World} {v:Value} {x:Literal} {bs:List Nat} (h:Rd (kJ 2 oE) w v x bs):v= .agg #[.int .i64 x.var,.int .i64 x.value]∧xO x.var∧xO x.value∧bs=[]:=by
  obtain⟨e,k0,k1,hbs⟩:=oE.open h.r;exact⟨e,k0,k1,hbs⟩
theorem oE.mk2 {w:World} {f0:Int} {f1:Int}  (h0:xO f0) (h1:xO f1):Rd (kJ 2 oE) w (.agg #[.int .i64 f0,.int .i64 f1]) (Literal.mk f0 f1) ([]):=
  ⟨oE.mk' (x:=⟨f0,f1⟩) h0 h1,vZ.nil w⟩
theorem oE.blk {w:World} {T:TypeId} {b:Nat} {f0:Int} {f1:Int}  (K:eZ w b #[.int .i64 f0,.int .i64 f1] T) (h0:xO f0) (h1:xO f1):Rd (Pt 2 oE) w (.pointer (some ⟨b,0,none⟩)) (Literal.mk f0 f1) (b::([])):=by
  have hm:vZ ([]) w:=vZ.nil w;refine⟨⟨b,0,_,rfl,rfl,(K.cell (0+0)).trans rfl,h0,(K.cell (0+1)).trans rfl,h1,rfl⟩,fun c hc=>?_⟩
  rcases List.mem_cons.1 hc with rfl | hc
  · exact K.lt
  · exact hm c hc
instance:FrC 1 bA:=⟨bA.fr,fun w f x bs h=>by
  obtain⟨v0,b0,h0,k0,hbs⟩:=h
  exact(bD mD h0 k0.one)⟩
theorem bA.mk2 {w:World} {f0:List Formula} {v0:Value} {b0:List Nat} (h0:Rd (Sl 3 kE) w v0 f0 b0):Rd (kJ 1 bA) w (.agg #[v0]) (Gadgets.mk f0) (b0):=
  ⟨bA.mk' (x:=⟨f0⟩) h0.r,h0.m⟩
theorem bA.blk {w:World} {T:TypeId} {b:Nat} {f0:List Formula} {v0:Value} {b0:List Nat} (K:eZ w b #[v0] T) (h0:Rd (Sl 3 kE) w v0 f0 b0):Rd (Pt 1 bA) w (.pointer (some ⟨b,0,none⟩)) (Gadgets.mk f0) (b::(b0)):=by
  have hm:vZ (b0) w:=h0.m;refine⟨⟨b,0,_,rfl,rfl,_,_,(K.cell (0+0)).trans rfl,h0.r,rfl⟩,fun c hc=>?_⟩
  rcases List.mem_cons.1 hc with rfl | hc
  · exact K.lt
  · exact hm c hc
instance:FrC 3 iB:=⟨iB.fr,fun w f x bs h=>by
  obtain⟨h0,k0,h1,k1,h2,k2,hbs⟩:=h
  exact(bD (bD (bD mD h0 rfl) h1 rfl) h2 rfl)⟩
theorem iB.mk2 {w:World} {f0:Int} {f1:Int} {f2:Int}  (h0:xO f0) (h1:xO f1) (h2:xO f2):Rd (kJ 3 iB) w (.agg #[.int .i64 f0,.int .i64 f1,.int .i64 f2]) (Deed.mk f0 f1 f2) ([]):=
  ⟨iB.mk' (x:=⟨f0,f1,f2⟩) h0 h1 h2,vZ.nil w⟩
theorem iB.blk {w:World} {T:TypeId} {b:Nat} {f0:Int} {f1:Int} {f2:Int}  (K:eZ w b #[.int .i64 f0,.int .i64 f1,.int .i64 f2] T) (h0:xO f0) (h1:xO f1) (h2:xO f2):Rd (Pt 3 iB) w (.pointer (some ⟨b,0,none⟩)) (Deed.mk f0 f1 f2) (b::([])):=by
  have hm:vZ ([]) w:=vZ.nil w;refine⟨⟨b,0,_,rfl,rfl,(K.cell (0+0)).trans rfl,h0,(K.cell (0+1)).trans rfl,h1,(K.cell (0+2)).trans rfl,h2,rfl⟩,fun c hc=>?_⟩
  rcases List.mem_cons.1 hc with rfl | hc
  · exact K.lt
  · exact hm c hc
theorem xNg {w:World} {T:TypeId} {b:Nat} {x:Int} (K:eZ w b #[.int .i64 x] T) (h:xO x):Rd (Pt 1 xI) w (.pointer (some ⟨b,0,none⟩)) x [b]:=
  ⟨⟨b,0,[],rfl,rfl,(K.cell (0+0)).trans rfl,h,rfl⟩,fun c hc=>by rw[List.mem_singleton] at hc;subst hc;exact K.lt⟩
theorem xNt {α:Type} {sz:Nat} {R:ER α} {w:World} {T:TypeId} {b:Nat} {v:Value} {x:List α} {bs:List Nat} (K:eZ w b #[v] T) (h:Rd (Sl sz R) w v x bs):Rd (Pt 1 (qK sz R)) w (.pointer (some ⟨b,0,none⟩)) x (b::bs):=
  ⟨⟨b,0,_,rfl,rfl,v,(K.cell (0+0)).trans rfl,h.r⟩,fun c hc=>by
    rcases List.mem_cons.1 hc with rfl | hc
    · exact K.lt
    · exact h.m c hc⟩
end Go.Proofs.YtghihmkhdhjhiaaGreatDoor
