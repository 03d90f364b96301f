/-
  Gadgets carry an instance and its solutions over and back; own gadgets change nothing. No condition.
-/
import Derived.Test.YtlommebgedmjdaaGreatDoorM99
import Derived.Test.YtlommebgedmjdaaGreatDoorJF
import Derived.Test.YtlommebgedmjdaaGreatDoorGE
import Derived.Deep.CutRange
namespace Go.Proofs.YtlommebgedmjdaaGreatDoor
set_option linter.unusedVariables false
set_option linter.unusedSimpArgs false
open Go.ChangeShapes Go.WideShapes Go.ChangeAt Go.RowKit Go.Deep
set_option maxRecDepth 100000
theorem aW.fr:Fr 1 aW:=FrC.fr
theorem xNq {P:Program} {e:TypeId} (h:P.underlying e=some (.int .u8)):xLi P e 1 aW:=by
  intro H enc W fuel cs y hy;obtain⟨n,rfl,rfl,hw⟩:=DataW.trod_int h hy
  have hb:0≤n∧n≤255:=by
    have:=hw
    unfold Lit.wf at this
    simpa [IntKind.min,IntKind.max,IntKind.signed,IntKind.bits] using this
  refine⟨rfl,UInt8.ofNat n.toNat,[],⟨?_,rfl⟩,fun _ h=>by cases h⟩
  show some (Value.int .u8 n)=some (Value.int .u8 ((UInt8.ofNat n.toNat).toNat:Int))
  have:(UInt8.ofNat n.toNat).toNat=n.toNat:=by rw[UInt8.toNat_ofNat'];omega
  rw[this]
  congr 2
  omega
theorem xMi:xLi Tryz.prog 22 1 (fG 1 aW):=xLc Tryz.underlying22 (by kernel_rfl) (by decide) aW.fr (xNq Tryz.underlying5)
theorem walk_FnGadgets {w:World} (hG:GloE w) (u0:Value) (x:List UInt8) (bs0:List Nat) (i0:Sl 1 aW w u0 x bs0) (j0:qM bs0 w) (u1:Value) (y:List UInt8) (bs1:List Nat) (i1:Sl 1 aW w u1 y bs1) (j1:qM bs1 w) :
    Calls Tryz.prog 3 #[u0,u1] w (xDj (.bool true) w):=by
  obtain⟨N,hN⟩:∃ N,1100≤N:=⟨_,Nat.le_refl _⟩;exact(laws_FnGadgets_c (B:=All w) true (law_FnGadgets hN x y) w aA hG (Bo.of ⟨i0,j0⟩) (Bo.of ⟨i1,j1⟩)).mono fun e w' h=>xDj.of_gt h
theorem own_FnGadgets:ownKnob Tryz.prog.godebug=none:=by kernel_rfl
theorem xGo (os:Os) (args:Array Value):laidMetH Tryz.prog Rows.fnGadgetsRow.laid ((World.laidAll Tryz.prog os Rows.fnGadgetsRow.laid).forCall (fun _ _=>0) ⟨#[],args,[]⟩).memory:=by
  rw[MakeChecks.laidMetH_plain _ _ _ (by kernel_rfl)];exact laidMet_laidAll _ (by kernel_rfl) (by kernel_rfl)
theorem xGy (os:Os) {H:Type} (enc:TypeId×Value→H):(OpenSpec.ofChange Rows.fnGadgetsSpec).preRow enc Tryz.prog Tryz.f3 Rows.fnGadgetsRow.domain false Rows.fnGadgetsRow.laid ((World.laidAll Tryz.prog os Rows.fnGadgetsRow.laid).forCall (fun _ _=>0) ⟨#[],#[.slice none 0 0,.slice none 0 0],[]⟩).memory #[.slice none 0 0,.slice none 0 0]:=by
  have hw:(DataW.whole enc Tryz.prog ((World.laidAll Tryz.prog os Rows.fnGadgetsRow.laid).forCall (fun _ _=>0) ⟨#[],#[.slice none 0 0,.slice none 0 0],[]⟩).memory Tryz.f3.params.toList (OpenSpec.ofChange Rows.fnGadgetsSpec).vars false (#[.slice none 0 0,.slice none 0 0]:Array Value).toList 12).isSome=true:=by kernel_rfl
  obtain⟨x,hx⟩:=Option.isSome_iff_exists.1 hw;exact OpenSpec.preRow_of_cond 12 hx rfl (fun k hk=>by cases hk) (by kernel_rfl) (xGo os _)
set_option maxRecDepth 100000 in
theorem lifted_FnGadgets (os:Os) (started:os.Started) (H:Type) (enc:TypeId×Value→H) (F0:Stop.Interp) :
    ReturnsInHanded {} Tryz.checked os 3 .any ((OpenSpec.ofChange Rows.fnGadgetsSpec).preRow enc Tryz.prog Tryz.f3 Rows.fnGadgetsRow.domain false Rows.fnGadgetsRow.laid) (((OpenSpec.ofChange Rows.fnGadgetsSpec).at F0).post enc Tryz.prog Tryz.f3 false true false false):=by
  refine returnsInHanded_of_row (C:=Tryz.checked) (s:=(OpenSpec.ofChange Rows.fnGadgetsSpec)) own_FnGadgets started (by kernel_rfl) Tryz.func3
    (witness_row_at (enc:=enc) (C:=Tryz.checked) false (World.laidAll Tryz.prog os Rows.fnGadgetsRow.laid) #[.slice none 0 0,.slice none 0 0] (World.laidAll_os _ _ _) (by kernel_rfl) (by kernel_rfl) (by kernel_rfl) (xGy os enc)) ?_
  intro W base args ds gs before hval0 hW _ _ _ hL hsh _;have hval:∀ (j:Nat) t v,Tryz.f3.params[j]?=some t→args[j]?=some v→Value.okWide Tryz.prog W .any base t v:=hval0;have hW':=hW;obtain⟨p,q,hA0,hV,rfl,hfz,hnd⟩:=hW;have hA:DataW.TrodAll enc Tryz.prog W 0 (fun _=>true) true Tryz.f3.params.toList args.toList ds p:=hA0;rw[Tryz.params3] at hA hval;obtain⟨v0,vs0,d0,ds0,p0,q0,hargs,rfl,rfl,h0,r0⟩:=trodAll_cons hA;obtain⟨v1,vs1,d1,ds1,p1,q1,rfl,rfl,rfl,h1,r1⟩:=trodAll_cons r0;obtain⟨rfl,rfl,rfl⟩:=trodAll_nil r1
  obtain rfl:args = #[v0,v1]:=by cases args;simp_all
  obtain⟨rfl,rfl⟩:=trodVars_none hV;obtain⟨x0,bs0,g0,m0⟩:=xPc Tryz.underlying22 xMi (hval 0 22 v0 rfl rfl) h0;obtain⟨x1,bs1,g1,m1⟩:=xPc Tryz.underlying22 xMi (hval 1 22 v1 rfl rfl) h1
  clear hval0
  rw[MakeChecks.laidMetH_plain _ _ _ (by kernel_rfl)] at hL;have hG0:Glo W:=⟨xLt hL (by unfold Rows.fnGadgetsRow;simp [xUo]),oCb.s1_3 W hsh⟩;have hG:GloE W:=⟨hG0,xPj hL.tail.tail.tail.tail.tail (by kernel_rfl),xPj hL.tail.tail.tail.tail (by kernel_rfl)⟩;have hlt0:∀ x∈p0,x.block<W.heap.size:=fun x hx=>hW'.lt x (by simp [hx]);have hlt1:∀ x∈p1,x.block<W.heap.size:=fun x hx=>hW'.lt x (by simp [hx]);refine(walk_FnGadgets hG v0 x0 bs0 g0 m0 v1 x1 bs1 g1 m1).mono fun e W' ⟨he,hg⟩=>?_;subst he;exact⟨_,rfl,_,_,_,[],_,[],hW',trodAll_cons_mk (shut_bool Tryz.underlying4 true) trodAll_mk0,(trodAll_cons_mk (Below.trod Tryz.laidOut (by kernel_rfl) (of_decide_eq_true (by kernel_rfl)) h0 hg hlt0) (trodAll_cons_mk (Below.trod Tryz.laidOut (by kernel_rfl) (of_decide_eq_true (by kernel_rfl)) h1 hg hlt1) trodAll_mk0)),rfl,hg.frame _,fun h=>by cases h⟩
theorem FnGadgets_row:Rows.FnGadgetsSaid:=
  OpenClaim.holds_of_cond 3 Tryz.f3 rfl rfl rfl rfl rfl rfl rfl ⟨rfl,rfl,rfl,rfl,rfl⟩ rfl rfl rfl rfl rfl (by kernel_rfl) Tryz.func3 (by kernel_rfl)
    (of_decide_eq_true (by kernel_rfl)) (by unfold Func.isWrapper;first | (rw[if_pos (by decide +kernel)];kernel_rfl) | (rw[if_neg (by decide +kernel)];exact⟨rfl,rfl⟩))
    (fun os started H enc _ F0=>by rw[OpenClaim.pre_eq_preRow];exact lifted_FnGadgets os started H enc F0)
theorem FnGadgetsCard_holds:Rows.FnGadgetsCardSaid:=
  Claim7.holds_tied_plain_at .later [] [.data,.data,.data,.data,.sentinel,.sentinel,.pinned] true (true,"0361796fa4b784fffcb46ac7a3aaa357f1716e0d7361a2a6ba0d698c80f51948") true
    FnGadgets_row (fun _ h=>by cases h) (by kernel_rfl) (fun _ h=>by cases h) fnGadgets_row_tie rfl ⟨rfl,rfl⟩ (by kernel_rfl) rfl
    (fun f fn hf hfn=>by
      obtain rfl:f=3:=Option.some.inj ((show Tryz.prog.funcNamed "loop.example/g01085/laws.FnGadgets" = some 3 by kernel_rfl).symm.trans hf) |>.symm;obtain rfl:fn=Tryz.f3:=(Option.some.inj (Tryz.func3.symm.trans hfn)).symm
      exact⟨by kernel_rfl,fun j t ht=>by
        rw[Tryz.params3] at ht
        have hm:t∈[22,22]:=by simpa using Array.mem_of_getElem? ht
        have hall:([22,22].all fun u=>!Tryz.prog.wantsStandIn u)=true:=by kernel_rfl
        exact(show Tryz.prog.wantsStandIn t=false by simpa using List.all_eq_true.1 hall t hm)⟩)
    (by kernel_rfl)
end Go.Proofs.YtlommebgedmjdaaGreatDoor
