/-
  The law about no-goods: what is learnt, shrunk and added. No condition.
-/
import Derived.Test.YtncganhbpbehaaaGreatM99
import Derived.Test.YtncganhbpbehaaaGreatO
import Derived.Test.YtncganhbpbehaaaGreatJF
import Derived.Deep.CutRange
namespace Go.Proofs.YtncganhbpbehaaaGreat
set_option linter.unusedVariables false
set_option linter.unusedSimpArgs false
open Go.ChangeShapes Go.WideShapes Go.ChangeAt Go.RowKit Go.Deep
set_option maxRecDepth 100000
theorem bS.fr:Fr 1 bS:=FrC.fr
theorem xGb {P:Program} {e:TypeId} (h:P.underlying e=some (.int .u8)):xEt P e 1 bS:=by
  intro H enc W fuel cs y hy;obtain⟨n,rfl,rfl,hw⟩:=DataW.trod_int h hy
  have hb:0≤n∧n≤255:=by
    have:=hw
    unfold Lit.wf at this
    simpa [IntKind.min,IntKind.max,IntKind.signed,IntKind.bits] using this
  refine⟨rfl,UInt8.ofNat n.toNat,[],⟨?_,rfl⟩,fun _ h=>by cases h⟩
  show some (Value.int .u8 n)=some (Value.int .u8 ((UInt8.ofNat n.toNat).toNat:Int))
  have:(UInt8.ofNat n.toNat).toNat=n.toNat:=by rw[UInt8.toNat_ofNat'];omega
  rw[this]
  congr 2
  omega
theorem xFj:xEt Tryz.prog 22 1 (vQ 1 bS):=xFo Tryz.underlying22 (by kernel_rfl) (by decide) bS.fr (xGb Tryz.underlying5)
theorem walk_FnLearnt (u0:Value) (x:List UInt8) (bs0:List Nat) {w:World} (i0:Sl 1 bS w u0 x bs0) (j0:zK bs0 w) (u1:Value) (y:List UInt8) (bs1:List Nat) (i1:Sl 1 bS w u1 y bs1) (j1:zK bs1 w) :
    Calls Tryz.prog 3 #[u0,u1] w (kL (.bool true) w):=
  laws_FnLearnt_c (B:=All w) (N:=6000) true (law_FnLearnt (by decide) x y) w aA (Bo.of ⟨i0,j0⟩) (Bo.of ⟨i1,j1⟩)
theorem xEq:Tryz.prog.funcNamed Rows.fnLearntRow.func=some 3:=by kernel_rfl
theorem xDv:Tryz.prog.inPlace 3=Rows.fnLearntRow.inPlace:=by kernel_rfl
theorem xEb:Tryz.prog.unfollowed 3=Rows.fnLearntRow.unfollowed:=by kernel_rfl
theorem xEr:Tryz.prog.recurses 3=Rows.fnLearntRow.recurses:=by kernel_rfl
theorem xEw:Tryz.prog.varsNamed 3=Rows.fnLearntRow.named:=by kernel_rfl
theorem xEp:joinedFacts Tryz.prog 3 Tryz.f3 Rows.fnLearntSpec Rows.fnLearntRow=true:=by
  unfold joinedFacts
  rw[xMs,xMy,xNh,xLe,xJe,xKr,xDv,xEb,xEr,xEw]
  kernel_rfl
theorem own_FnLearnt:ownKnob Tryz.prog.godebug=none:=by kernel_rfl
set_option maxRecDepth 100000 in
theorem lifted_FnLearnt (os:Os) (started:os.Started) (H:Type) (enc:TypeId×Value→H) :
    ReturnsInHanded {} Tryz.checked os 3 .any (Rows.fnLearntSpec.pre6 enc Tryz.prog Tryz.f3 Rows.fnLearntRow.domain false) (Rows.fnLearntSpec.post enc Tryz.prog Tryz.f3 false true false false):=by
  refine returnsInHanded_of_change (C:=Tryz.checked) own_FnLearnt started (by kernel_rfl) Tryz.func3
    (ChangeSpec.witness6 (enc:=enc) (C:=Tryz.checked) false ⟨#[],#[.slice none 0 0,.slice none 0 0],[]⟩ 12 (by kernel_rfl) (by kernel_rfl) (by kernel_rfl) (by kernel_rfl)) ?_
  intro W base args ds gs before hval0 hW hcnd _;have hval:∀ (j:Nat) t v,Tryz.f3.params[j]?=some t→args[j]?=some v→Value.okWide Tryz.prog W .any base t v:=hval0;have hW':=hW;obtain⟨p,q,hA0,hV,rfl,hfz,hnd⟩:=hW;have hA:DataW.TrodAll enc Tryz.prog W 0 (fun _=>true) true Tryz.f3.params.toList args.toList ds p:=hA0;rw[Tryz.params3] at hA hval;obtain⟨v0,vs0,d0,ds0,p0,q0,hargs,rfl,rfl,h0,r0⟩:=trodAll_cons hA;obtain⟨v1,vs1,d1,ds1,p1,q1,rfl,rfl,rfl,h1,r1⟩:=trodAll_cons r0;obtain⟨rfl,rfl,rfl⟩:=trodAll_nil r1
  obtain rfl:args = #[v0,v1]:=by cases args;simp_all
  obtain⟨rfl,rfl⟩:=trodVars_none hV;obtain⟨x0,bs0,g0,m0⟩:=xHm Tryz.underlying22 xFj (hval 0 22 v0 rfl rfl) h0;obtain⟨x1,bs1,g1,m1⟩:=xHm Tryz.underlying22 xFj (hval 1 22 v1 rfl rfl) h1
  clear hval0
  have hlt0:∀ x∈p0,x.block<W.heap.size:=fun x hx=>hW'.lt x (by simp [hx]);have hlt1:∀ x∈p1,x.block<W.heap.size:=fun x hx=>hW'.lt x (by simp [hx]);refine(walk_FnLearnt v0 x0 bs0 g0 m0 v1 x1 bs1 g1 m1).mono fun e W' ⟨he,hg⟩=>?_;subst he;exact⟨_,rfl,_,_,_,[],_,[],hW',trodAll_cons_mk (shut_bool Tryz.underlying4 true) trodAll_mk0,(trodAll_cons_mk (Below.trod Tryz.laidOut (by kernel_rfl) (of_decide_eq_true (by kernel_rfl)) h0 hg hlt0) (trodAll_cons_mk (Below.trod Tryz.laidOut (by kernel_rfl) (of_decide_eq_true (by kernel_rfl)) h1 hg hlt1) trodAll_mk0)),rfl,hg.frame _,fun h=>by cases h⟩
theorem xFk:Tryz.f3.isInstance Tryz.prog Rows.fnLearntRow.origin Rows.fnLearntRow.targs:=of_decide_eq_true (by kernel_rfl)
theorem xDu:Tryz.f3.isWrapper Tryz.prog Rows.fnLearntRow.wrapper Rows.fnLearntRow.mainSum:=by unfold Func.isWrapper;first | (rw[if_pos (by decide +kernel)];kernel_rfl) | (rw[if_neg (by decide +kernel)];exact⟨rfl,rfl⟩)
theorem FnLearnt_holds:Rows.FnLearntSaid:=
  OpenClaim.holds_of_wide 3 Tryz.f3 rfl rfl rfl rfl rfl rfl rfl ⟨rfl,rfl,rfl,rfl,rfl⟩ rfl rfl rfl rfl rfl xEq Tryz.func3 xEp xFk xDu
    (fun os started H enc _=>lifted_FnLearnt os started H enc)
end Go.Proofs.YtncganhbpbehaaaGreat
