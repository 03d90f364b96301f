/-
  The program's SolveByClass returns what the reference's returns, for all arguments. No condition.
-/
import Derived.Test.YticojbhjloeckaaGreatM82
import Derived.Test.YticojbhjloeckaaGreatLSolveByClass
import Derived.Test.YticojbhjloeckaaGreatP
import Derived.Test.YticojbhjloeckaaGreatJF
import Derived.Deep.CutRange
namespace Go.Proofs.YticojbhjloeckaaGreat
set_option linter.unusedVariables false
set_option linter.unusedSimpArgs false
open Go.ChangeShapes Go.WideShapes Go.ChangeAt Go.RowKit Go.Deep
set_option maxRecDepth 100000
theorem law_SolveByClass {N:Nat} (hN:2000≤N) (x:Template) (p:Instance) (k:Int):laws_FnExactSolveByClass N x p k=some true:=by
  unfold laws_FnExactSolveByClass
  obtain⟨z0,a0,b0⟩:=szq_two (left:=1048576) (n:=x.sz) (by decide) (by decide);rw[a0,bnd_s]
  rcases b0 with b0 | ⟨b0,c0,d0⟩
  · rw[b0];rfl
  · obtain⟨z1,a1,b1⟩:=szq_two (left:=z0) (n:=p.sz) (by omega) (by omega)
    rw[b0,if_neg (by simp),a1,bnd_s]
    rcases b1 with b1 | ⟨b1,c1,d1⟩
    · rw[b1];rfl
    · have hx:x.sz≤1048576:=by omega
      have hp:p.sz≤1048576:=by omega
      have kx:=cntT hx;have kp:=cntIn hp;obtain⟨r,e1,e2,l1⟩:=SolveByClass_two (y:=p) (k:=k) (smallT_of hx) hN;have q1:mkq 1 x.cnt=some (1+(x.cnt:Nat)):=mkq_eq (by omega) (by omega);have q4:mkq (1+(x.cnt:Int)) p.cnt=some (1+(x.cnt:Int)+(p.cnt:Nat)):=mkq_eq (by omega) (by omega)
      have hq:zK cI r.1≤10:=by rw[cntI];exact l1
      have q5:mkq 1 (zK cI r.1)=some (1+(zK cI r.1:Nat)):=mkq_eq (by decide) (by omega)
      have n1:¬ (1+(x.cnt:Int)+(p.cnt:Int)<0):=by omega
      have n2:¬ (1+(zK cI r.1:Int)<0):=by omega
      rw[b1,if_neg (by simp),toq_eq hx,toq_eq hp,bnd_s,bnd_s,e1,e2]
      simp [eqq_eq,q1,q4,q5,n1,n2]
theorem walk_FnExactSolveByClass (u0:Value) (x:Template) (bs0:List Nat) {w:World} (i0:zC 2 xG w u0 x bs0) (j0:oZ bs0 w) (u1:Value) (p:Instance) (bs1:List Nat) (i1:zC 2 xI w u1 p bs1) (j1:oZ bs1 w) (k:Int) (hk:xY k) :
    Calls Tryz.prog 3 #[u0,u1,.int .i64 k] w (vV (.bool true) w):=by
  obtain⟨N,hN⟩:∃ N,2000≤N:=⟨_,Nat.le_refl _⟩;exact laws_FnExactSolveByClass_c (B:=All w) true (law_SolveByClass hN x p k) w aA (Bo.of ⟨i0,j0⟩) (Bo.of ⟨i1,j1⟩) hk
theorem jn_FnExactSolveByClass:Tryz.prog.funcNamed Rows.fnExactSolveByClassRow.func=some 3:=by kernel_rfl
theorem ji_FnExactSolveByClass:Tryz.prog.inPlace 3=Rows.fnExactSolveByClassRow.inPlace:=by kernel_rfl
theorem ju_FnExactSolveByClass:Tryz.prog.unfollowed 3=Rows.fnExactSolveByClassRow.unfollowed:=by kernel_rfl
theorem jr_FnExactSolveByClass:Tryz.prog.recurses 3=Rows.fnExactSolveByClassRow.recurses:=by kernel_rfl
theorem jv_FnExactSolveByClass:Tryz.prog.varsNamed 3=Rows.fnExactSolveByClassRow.named:=by kernel_rfl
theorem jj_FnExactSolveByClass:joinedFacts Tryz.prog 3 Tryz.f3 Rows.fnExactSolveByClassSpec Rows.fnExactSolveByClassRow=true:=by
  unfold joinedFacts
  rw[jf_laid,jf_maps,jf_keys,jf_heard,jf_enter,jf_lifts,ji_FnExactSolveByClass,ju_FnExactSolveByClass,jr_FnExactSolveByClass,jv_FnExactSolveByClass]
  kernel_rfl
theorem own_FnExactSolveByClass:ownKnob Tryz.prog.godebug=none:=by kernel_rfl
set_option maxRecDepth 100000 in
theorem lifted_FnExactSolveByClass (os:Os) (started:os.Started) (H:Type) (enc:TypeId×Value→H) :
    ReturnsInHanded {} Tryz.checked os 3 .any (Rows.fnExactSolveByClassSpec.pre6 enc Tryz.prog Tryz.f3 Rows.fnExactSolveByClassRow.domain false) (Rows.fnExactSolveByClassSpec.post enc Tryz.prog Tryz.f3 false true false false):=by
  refine returnsInHanded_of_change (C:=Tryz.checked) own_FnExactSolveByClass started (by kernel_rfl) Tryz.func3
    (ChangeSpec.witness6 (enc:=enc) (C:=Tryz.checked) false ⟨#[],#[.agg #[.int .i64 0,.slice none 0 0],.agg #[.int .i64 0,.slice none 0 0],.int .i64 0],[]⟩ 12 (by kernel_rfl) (by kernel_rfl) (by kernel_rfl) (by kernel_rfl)) ?_
  intro W base args ds gs before hval0 hW hcnd _;have hval:∀ (j:Nat) t v,Tryz.f3.params[j]?=some t→args[j]?=some v→Value.okWide Tryz.prog W .any base t v:=hval0;have hW':=hW;obtain⟨p,q,hA0,hV,rfl,hfz,hnd⟩:=hW;have hA:DataW.TrodAll enc Tryz.prog W 0 (fun _=>true) true Tryz.f3.params.toList args.toList ds p:=hA0;rw[Tryz.params3] at hA hval;obtain⟨v0,vs0,d0,ds0,p0,q0,hargs,rfl,rfl,h0,r0⟩:=trodAll_cons hA;obtain⟨v1,vs1,d1,ds1,p1,q1,rfl,rfl,rfl,h1,r1⟩:=trodAll_cons r0;obtain⟨v2,vs2,d2,ds2,p2,q2,rfl,rfl,rfl,h2,r2⟩:=trodAll_cons r1;obtain⟨rfl,rfl,rfl⟩:=trodAll_nil r2
  obtain rfl:args = #[v0,v1,v2]:=by cases args;simp_all
  obtain⟨rfl,rfl⟩:=trodVars_none hV;obtain⟨x0,bs0,g0,m0⟩:=open_agg Tryz.underlying24 opens_Template (hval 0 24 v0 rfl rfl) h0;obtain⟨x1,bs1,g1,m1⟩:=open_agg Tryz.underlying27 opens_Instance (hval 1 27 v1 rfl rfl) h1;obtain⟨a2,rfl,rfl,rfl,w2⟩:=open_int Tryz.underlying2 (hval 2 2 v2 rfl rfl) h2;have b2:xY a2:=bounds_i64 w2
  clear hval0
  have hlt0:∀ x∈p0,x.block<W.heap.size:=fun x hx=>hW'.lt x (by simp [hx]);have hlt1:∀ x∈p1,x.block<W.heap.size:=fun x hx=>hW'.lt x (by simp [hx]);refine(walk_FnExactSolveByClass v0 x0 bs0 g0 m0 v1 x1 bs1 g1 m1 a2 b2).mono fun e W' ⟨he,hg⟩=>?_;subst he;exact⟨_,rfl,_,_,_,[],_,[],hW',trodAll_cons_mk (shut_bool Tryz.underlying4 true) trodAll_mk0,(trodAll_cons_mk (Below.trod Tryz.laidOut (by kernel_rfl) (of_decide_eq_true (by kernel_rfl)) h0 hg hlt0) (trodAll_cons_mk (Below.trod Tryz.laidOut (by kernel_rfl) (of_decide_eq_true (by kernel_rfl)) h1 hg hlt1) (trodAll_cons_mk (shut_int Tryz.underlying2 w2) trodAll_mk0))),rfl,hg.frame _,fun h=>by cases h⟩
theorem jw_FnExactSolveByClass:Tryz.f3.isInstance Tryz.prog Rows.fnExactSolveByClassRow.origin Rows.fnExactSolveByClassRow.targs:=of_decide_eq_true (by kernel_rfl)
theorem jx_FnExactSolveByClass:Tryz.f3.isWrapper Tryz.prog Rows.fnExactSolveByClassRow.wrapper Rows.fnExactSolveByClassRow.mainSum:=by unfold Func.isWrapper;first | (rw[if_pos (by decide +kernel)];kernel_rfl) | (rw[if_neg (by decide +kernel)];exact⟨rfl,rfl⟩)
theorem FnExactSolveByClass_holds:Rows.FnExactSolveByClassSaid:=
  OpenClaim.holds_of_wide 3 Tryz.f3 rfl rfl rfl rfl rfl rfl rfl ⟨rfl,rfl,rfl,rfl,rfl⟩ rfl rfl rfl rfl rfl jn_FnExactSolveByClass Tryz.func3 jj_FnExactSolveByClass jw_FnExactSolveByClass jx_FnExactSolveByClass
    (fun os started H enc _=>lifted_FnExactSolveByClass os started H enc)
end Go.Proofs.YticojbhjloeckaaGreat
