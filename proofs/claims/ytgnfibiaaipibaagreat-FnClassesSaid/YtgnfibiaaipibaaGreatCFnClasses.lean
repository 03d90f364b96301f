/-
  A template is of a class just if nothing breaks its operation; what a class solves is a solution just if there is one; the equations of a relation hold for all its tuples, and for no others, if the sum of three keeps it. No condition.
-/
import Derived.Test.YtgnfibiaaipibaaGreatM99
import Derived.Test.YtgnfibiaaipibaaGreatO
import Derived.Test.YtgnfibiaaipibaaGreatJF
import Derived.Deep.CutRange
namespace Go.Proofs.YtgnfibiaaipibaaGreat
set_option linter.unusedVariables false
set_option linter.unusedSimpArgs false
open Go.ChangeShapes Go.WideShapes Go.ChangeAt Go.RowKit Go.Deep
set_option maxRecDepth 100000
theorem cL.fr:Fr 1 cL:=FrC.fr
theorem opens_byte {P:Program} {e:TypeId} (h:P.underlying e=some (.int .u8)):Opens P e 1 cL:=by
  intro H enc W fuel cs y hy;obtain⟨n,rfl,rfl,hw⟩:=DataW.trod_int h hy
  have hb:0≤n∧n≤255:=by
    have:=hw
    unfold Lit.wf at this
    simpa [IntKind.min,IntKind.max,IntKind.signed,IntKind.bits] using this
  refine⟨rfl,UInt8.ofNat n.toNat,[],⟨?_,rfl⟩,fun _ h=>by cases h⟩
  show some (Value.int .u8 n)=some (Value.int .u8 ((UInt8.ofNat n.toNat).toNat:Int))
  have:(UInt8.ofNat n.toNat).toNat=n.toNat:=by rw[UInt8.toNat_ofNat'];omega
  rw[this]
  congr 2
  omega
theorem opens_SU:Opens Tryz.prog 22 1 (vO 1 cL):=opens_slice Tryz.underlying22 (by kernel_rfl) (by decide) cL.fr (opens_byte Tryz.underlying5)
theorem walk_FnClasses (u0:Value) (x:List UInt8) (bs0:List Nat) {w:World} (i0:Sl 1 cL w u0 x bs0) (j0:zD bs0 w) (u1:Value) (y:List UInt8) (bs1:List Nat) (i1:Sl 1 cL w u1 y bs1) (j1:zD bs1 w) :
    Calls Tryz.prog 3 #[u0,u1] w (zO (.bool true) w):=
  laws_FnClasses_c (B:=All w) true (law_FnClasses x y) w aA (Bo.of ⟨i0,j0⟩) (Bo.of ⟨i1,j1⟩)
theorem jn_FnClasses:Tryz.prog.funcNamed Rows.fnClassesRow.func=some 3:=by kernel_rfl
theorem ji_FnClasses:Tryz.prog.inPlace 3=Rows.fnClassesRow.inPlace:=by kernel_rfl
theorem ju_FnClasses:Tryz.prog.unfollowed 3=Rows.fnClassesRow.unfollowed:=by kernel_rfl
theorem jr_FnClasses:Tryz.prog.recurses 3=Rows.fnClassesRow.recurses:=by kernel_rfl
theorem jv_FnClasses:Tryz.prog.varsNamed 3=Rows.fnClassesRow.named:=by kernel_rfl
theorem jj_FnClasses:joinedFacts Tryz.prog 3 Tryz.f3 Rows.fnClassesSpec Rows.fnClassesRow=true:=by
  unfold joinedFacts
  rw[jf_laid,jf_maps,jf_keys,jf_heard,jf_enter,jf_lifts,ji_FnClasses,ju_FnClasses,jr_FnClasses,jv_FnClasses]
  kernel_rfl
theorem own_FnClasses:ownKnob Tryz.prog.godebug=none:=by kernel_rfl
set_option maxRecDepth 100000 in
theorem lifted_FnClasses (os:Os) (started:os.Started) (H:Type) (enc:TypeId×Value→H) :
    ReturnsInHanded {} Tryz.checked os 3 .any (Rows.fnClassesSpec.pre6 enc Tryz.prog Tryz.f3 Rows.fnClassesRow.domain false) (Rows.fnClassesSpec.post enc Tryz.prog Tryz.f3 false true false false):=by
  refine returnsInHanded_of_change (C:=Tryz.checked) own_FnClasses started (by kernel_rfl) Tryz.func3
    (ChangeSpec.witness6 (enc:=enc) (C:=Tryz.checked) false ⟨#[],#[.slice none 0 0,.slice none 0 0],[]⟩ 12 (by kernel_rfl) (by kernel_rfl) (by kernel_rfl) (by kernel_rfl)) ?_
  intro W base args ds gs before hval0 hW hcnd _;have hval:∀ (j:Nat) t v,Tryz.f3.params[j]?=some t→args[j]?=some v→Value.okWide Tryz.prog W .any base t v:=hval0;have hW':=hW;obtain⟨p,q,hA0,hV,rfl,hfz,hnd⟩:=hW;have hA:DataW.TrodAll enc Tryz.prog W 0 (fun _=>true) true Tryz.f3.params.toList args.toList ds p:=hA0;rw[Tryz.params3] at hA hval;obtain⟨v0,vs0,d0,ds0,p0,q0,hargs,rfl,rfl,h0,r0⟩:=trodAll_cons hA;obtain⟨v1,vs1,d1,ds1,p1,q1,rfl,rfl,rfl,h1,r1⟩:=trodAll_cons r0;obtain⟨rfl,rfl,rfl⟩:=trodAll_nil r1
  obtain rfl:args = #[v0,v1]:=by cases args;simp_all
  obtain⟨rfl,rfl⟩:=trodVars_none hV;obtain⟨x0,bs0,g0,m0⟩:=open_sl Tryz.underlying22 opens_SU (hval 0 22 v0 rfl rfl) h0;obtain⟨x1,bs1,g1,m1⟩:=open_sl Tryz.underlying22 opens_SU (hval 1 22 v1 rfl rfl) h1
  clear hval0
  have hlt0:∀ x∈p0,x.block<W.heap.size:=fun x hx=>hW'.lt x (by simp [hx]);have hlt1:∀ x∈p1,x.block<W.heap.size:=fun x hx=>hW'.lt x (by simp [hx]);refine(walk_FnClasses v0 x0 bs0 g0 m0 v1 x1 bs1 g1 m1).mono fun e W' ⟨he,hg⟩=>?_;subst he;exact⟨_,rfl,_,_,_,[],_,[],hW',trodAll_cons_mk (shut_bool Tryz.underlying4 true) trodAll_mk0,(trodAll_cons_mk (Below.trod Tryz.laidOut (by kernel_rfl) (of_decide_eq_true (by kernel_rfl)) h0 hg hlt0) (trodAll_cons_mk (Below.trod Tryz.laidOut (by kernel_rfl) (of_decide_eq_true (by kernel_rfl)) h1 hg hlt1) trodAll_mk0)),rfl,hg.frame _,fun h=>by cases h⟩
theorem jw_FnClasses:Tryz.f3.isInstance Tryz.prog Rows.fnClassesRow.origin Rows.fnClassesRow.targs:=of_decide_eq_true (by kernel_rfl)
theorem jx_FnClasses:Tryz.f3.isWrapper Tryz.prog Rows.fnClassesRow.wrapper Rows.fnClassesRow.mainSum:=by unfold Func.isWrapper;first | (rw[if_pos (by decide +kernel)];kernel_rfl) | (rw[if_neg (by decide +kernel)];exact⟨rfl,rfl⟩)
theorem FnClasses_holds:Rows.FnClassesSaid:=
  OpenClaim.holds_of_wide 3 Tryz.f3 rfl rfl rfl rfl rfl rfl rfl ⟨rfl,rfl,rfl,rfl,rfl⟩ rfl rfl rfl rfl rfl jn_FnClasses Tryz.func3 jj_FnClasses jw_FnClasses jx_FnClasses
    (fun os started H enc _=>lifted_FnClasses os started H enc)
end Go.Proofs.YtgnfibiaaipibaaGreat
