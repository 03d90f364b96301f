/-
  VerdictsOf of the program returns what the reference's returns, for all houses. No condition.
-/
import Derived.Deep.CutRange
import Derived.Test.YtomlfdagbmgmgaaGreatJF
namespace Go.Proofs.YtomlfdagbmgmgaaGreat
set_option linter.unusedVariables false
set_option linter.unusedSimpArgs false
open Go.ChangeShapes Go.WideShapes Go.ChangeAt Go.RowKit Go.Deep
set_option maxRecDepth 100000
theorem Sl.each {α:Type} {sz:Nat} {R:ER α} {w:World} {v:Value} {l:List α} {bs:List Nat} (h:Sl sz R w v l bs):nN l/\∀ x∈l,∃ f bi,R w f x bi:=by
 obtain⟨a,c,rfl,h1,h2,h3,h4⟩:=h;refine⟨by unfold nN;unfold maxLen at h2;omega,λx hx=>?_⟩
 rcases h4 with ⟨rfl,_⟩ | ⟨b,o,bss,_,_,he⟩
 ·simp at hx
 ·obtain⟨i,hi,rfl⟩:=Bx hx
  exact⟨_,_,he.2 i _ _ (Aa hi) (Aa (by rw[he.1];exact hi))⟩
theorem oHo {w:World} {v:Value} {x:B6} {bs:List Nat} (h:qR 4 vT w v x bs):InH x:=by
 obtain⟨cs,_,_,v1,v2,b1,b2,_,_,_,k1,_,k2,_⟩:=h;obtain⟨l1,e1⟩:=k1.each;obtain⟨l2,e2⟩:=k2.each;refine⟨⟨l1,λr hr=>?_⟩,⟨l2,λy hy=>?_⟩⟩
 ·obtain⟨f,bi,v3,b3,_,_,_,k3,_⟩:=e1 r hr
  obtain⟨l3,e3⟩:=k3.each;refine⟨l3,λt ht=>?_⟩;obtain⟨f,bi,v4,_,k4⟩:=e3 t ht;exact k4.each.1
 ·obtain⟨f,bi,v3,b3,_,_,_,k3,_⟩:=e2 y hy
  obtain⟨l3,e3⟩:=k3.each;refine⟨l3,λc hc=>?_⟩;obtain⟨f,bi,v4,b4,_,_,_,k4,_⟩:=e3 c hc;exact k4.each.1
theorem xSo:tM Tryz.prog 27 4 vT:=by
 intro H enc W fuel cs y hy;obtain⟨xs,n,_,rfl,hl,hxl,hf⟩:=DataW.trod_struct Tryz.underlying27 hy;have hl':cs.length=4:=hl.trans (by kernel_rfl)
 match cs,hl',xs,hxl,hf with
 | [c0,c1,c2,c3],_,[y0,y1,y2],_,hf=>
  have F0:DataW.trod enc Tryz.prog W 0 (λ_=>true) true n 24 (List.take (Tryz.prog.cellsOf 24) [c0,c1,c2,c3])=some y0:=hf 0 _ rfl;have F1:DataW.trod enc Tryz.prog W 0 (λ_=>true) true n 25 (List.take (Tryz.prog.cellsOf 25) [c2,c3])=some y1:=hf 1 _ rfl;have F2:DataW.trod enc Tryz.prog W 0 (λ_=>true) true n 2 (List.take (Tryz.prog.cellsOf 2) [c3])=some y2:=hf 2 _ rfl;rw[show Tryz.prog.cellsOf 24=2 by kernel_rfl] at F0;rw[show Tryz.prog.cellsOf 25=1 by kernel_rfl] at F1;rw[show Tryz.prog.cellsOf 2=1 by kernel_rfl] at F2;obtain⟨_,t,b1,⟨v1,_,h0,i0,h1,k1,rfl⟩,m1⟩:=xKg H enc W n _ _ F0;obtain⟨_,j,b2,⟨v2,h2,k2⟩,m2⟩:=xIz H enc W n _ _ F1;obtain⟨_,k,_,⟨h3,i3,rfl⟩,_⟩:=xCt H enc W n _ _ F2;exact⟨rfl,⟨t,j,k⟩,_,⟨v1,v2,_,_,h0,i0,h1,k1,h2,k2,h3,i3,rfl⟩,kH.append m1 m2⟩
theorem walk_FnExactVerdictsOf (u0:Value) (x:B6) (bs0:List Nat) {w:World} (i0:qR 4 vT w u0 x bs0) (j0:kH bs0 w) : Calls Tryz.prog 3 #[u0] w (xUt (.bool true) w):=by
 obtain⟨N,hN⟩:∃ N,13000<=N:=⟨_,Az _⟩;exact(laws_FnExactVerdictsOf_c (B:=All w) aA (Bo.of ⟨i0,j0⟩) true (law_VerdictsOf hN (oHo i0))).mono λe w' h=>xUt.of_gt h
theorem xCf:Tryz.prog.funcNamed Rows.fnExactVerdictsOfRow.func=some 3:=by kernel_rfl
theorem xCd:Tryz.prog.inPlace 3=Rows.fnExactVerdictsOfRow.inPlace:=by kernel_rfl
theorem xCg:Tryz.prog.unfollowed 3=Rows.fnExactVerdictsOfRow.unfollowed:=by kernel_rfl
theorem xCj:Tryz.prog.recurses 3=Rows.fnExactVerdictsOfRow.recurses:=by kernel_rfl
theorem xCp:Tryz.prog.varsNamed 3=Rows.fnExactVerdictsOfRow.named:=by kernel_rfl
theorem xBd:joinedFacts Tryz.prog 3 Tryz.f3 Rows.fnExactVerdictsOfSpec Rows.fnExactVerdictsOfRow=true:=by
 unfold joinedFacts
 rw[oEu,oDi,oDn,xYk,oCc,oBp,xCd,xCg,xCj,xCp]
 kernel_rfl
theorem own_FnExactVerdictsOf:ownKnob Tryz.prog.godebug=none:=by kernel_rfl
set_option maxRecDepth 100000 in
theorem lifted_FnExactVerdictsOf (os:Os) (started:os.Started) (H:Type) (enc:TypeId×Value->H) :
 ReturnsInHanded {} Tryz.checked os 3 .any (Rows.fnExactVerdictsOfSpec.pre6 enc Tryz.prog Tryz.f3 Rows.fnExactVerdictsOfRow.domain false) (Rows.fnExactVerdictsOfSpec.post enc Tryz.prog Tryz.f3 false true false false):=by
 refine returnsInHanded_of_change (C:=Tryz.checked) own_FnExactVerdictsOf started (by kernel_rfl) Tryz.func3
  (ChangeSpec.witness6 (enc:=enc) (C:=Tryz.checked) false ⟨#[],#[.agg #[.int .i64 0,.slice none 0 0,.slice none 0 0,.int .i64 0]],[]⟩ 12 (by kernel_rfl) (by kernel_rfl) (by kernel_rfl) (by kernel_rfl)) ?_
 intro W base args ds gs before hval0 hW hcnd _;have hval:∀ (j:Nat) t v,Tryz.f3.params[j]?=some t->args[j]?=some v->Value.okWide Tryz.prog W .any base t v:=hval0;have hW':=hW;obtain⟨p,q,hA0,hV,rfl,hfz,hnd⟩:=hW;have hA:DataW.TrodAll enc Tryz.prog W 0 (λ_=>true) true Tryz.f3.params.toList args.toList ds p:=hA0;rw[Tryz.params3] at hA hval;obtain⟨v0,vs0,d0,ds0,p0,q0,hargs,rfl,rfl,h0,r0⟩:=trodAll_cons hA;obtain⟨rfl,rfl,rfl⟩:=trodAll_nil r0
 obtain rfl:args = #[v0]:=by cases args;simp_all
 obtain⟨rfl,rfl⟩:=trodVars_none hV;obtain⟨x0,bs0,g0,m0⟩:=xZi Tryz.underlying27 xSo (hval 0 27 v0 rfl rfl) h0
 clear hval0
 have hlt0:∀ x∈p0,x.block<W.heap.size:=λx hx=>hW'.lt x (by simp [hx]);refine(walk_FnExactVerdictsOf v0 x0 bs0 g0 m0).mono λe W' ⟨he,hg⟩=>?_;subst he;exact⟨_,rfl,_,_,_,[],_,[],hW',trodAll_cons_mk (shut_bool Tryz.underlying4 true) trodAll_mk0,(trodAll_cons_mk (Below.trod Tryz.laidOut (by kernel_rfl) (of_decide_eq_true (by kernel_rfl)) h0 hg hlt0) trodAll_mk0),rfl,hg.frame _,λh=>by cases h⟩
theorem xBo:Tryz.f3.isInstance Tryz.prog Rows.fnExactVerdictsOfRow.origin Rows.fnExactVerdictsOfRow.targs:=of_decide_eq_true (by kernel_rfl)
theorem xCe:Tryz.f3.isWrapper Tryz.prog Rows.fnExactVerdictsOfRow.wrapper Rows.fnExactVerdictsOfRow.mainSum:=by unfold Func.isWrapper;first | (rw[if_pos (by decide +kernel)];kernel_rfl) | (rw[if_neg (by decide +kernel)];exact⟨rfl,rfl⟩)
theorem FnExactVerdictsOf_holds:Rows.FnExactVerdictsOfSaid:= OpenClaim.holds_of_wide 3 Tryz.f3 rfl rfl rfl rfl rfl rfl rfl ⟨rfl,rfl,rfl,rfl,rfl⟩ rfl rfl rfl rfl rfl xCf Tryz.func3 xBd xBo xCe (λos started H enc _=>lifted_FnExactVerdictsOf os started H enc)
end Go.Proofs.YtomlfdagbmgmgaaGreat
