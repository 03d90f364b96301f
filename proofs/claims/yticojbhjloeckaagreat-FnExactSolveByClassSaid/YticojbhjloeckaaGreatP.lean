import Derived.Test.YticojbhjloeckaaGreatRows
import Derived.Test.YticojbhjloeckaaGreatO
namespace Go.Proofs.YticojbhjloeckaaGreat
set_option linter.unusedVariables false
set_option linter.unusedSimpArgs false
open Go.ChangeShapes Go.WideShapes Go.ChangeAt Go.RowKit Go.Deep
theorem Tryz.laidOut:laidOutB Tryz.prog=true:=by kernel_rfl
theorem opens_I:Opens Tryz.prog 2 1 xH:=opens_int Tryz.underlying2
theorem opens_SI:Opens Tryz.prog 30 1 (vY 1 xH):=opens_slice Tryz.underlying30 (by kernel_rfl) (by decide) xH.fr opens_I
theorem opens_SL:Opens Tryz.prog 67 1 (vY 1 zT):=opens_slice Tryz.underlying67 (by kernel_rfl) (by decide) zT.fr opens_SI
theorem opens_Rel:Opens Tryz.prog 79 2 oM:=by
  intro H enc W fuel cs y hy;obtain⟨xs,n,_,rfl,hl,hxl,hf⟩:=DataW.trod_struct Tryz.underlying79 hy;have hl':cs.length=2:=hl.trans (by kernel_rfl);have F:=field_of (by kernel_rfl) hl' hxl hf;obtain⟨c0,y0,h0,t0⟩:=F 0 _ rfl;obtain⟨_,x0,_,⟨q0,r0,rfl⟩,_⟩:=opens_I H enc W n _ _ t0;obtain rfl:=Option.some.inj q0;obtain⟨c1,y1,h1,t1⟩:=F 1 _ rfl;obtain⟨_,x1,b1,⟨v1,q1,r1⟩,m1⟩:=opens_SL H enc W n _ _ t1;obtain rfl:=Option.some.inj q1;exact⟨hl',⟨x0,x1⟩,_,⟨_,_,h0,r0,h1,r1,rfl⟩,m1⟩
theorem opens_SRel:Opens Tryz.prog 22 1 (vY 2 oM):=opens_slice Tryz.underlying22 (by kernel_rfl) (by decide) oM.fr opens_Rel
theorem opens_Template:Opens Tryz.prog 24 2 xG:=by
  intro H enc W fuel cs y hy;obtain⟨xs,n,_,rfl,hl,hxl,hf⟩:=DataW.trod_struct Tryz.underlying24 hy;have hl':cs.length=2:=hl.trans (by kernel_rfl);have F:=field_of (by kernel_rfl) hl' hxl hf;obtain⟨c0,y0,h0,t0⟩:=F 0 _ rfl;obtain⟨_,x0,_,⟨q0,r0,rfl⟩,_⟩:=opens_I H enc W n _ _ t0;obtain rfl:=Option.some.inj q0;obtain⟨c1,y1,h1,t1⟩:=F 1 _ rfl;obtain⟨_,x1,b1,⟨v1,q1,r1⟩,m1⟩:=opens_SRel H enc W n _ _ t1;obtain rfl:=Option.some.inj q1;exact⟨hl',⟨x0,x1⟩,_,⟨_,_,h0,r0,h1,r1,rfl⟩,m1⟩
theorem opens_Con:Opens Tryz.prog 82 2 qX:=by
  intro H enc W fuel cs y hy;obtain⟨xs,n,_,rfl,hl,hxl,hf⟩:=DataW.trod_struct Tryz.underlying82 hy;have hl':cs.length=2:=hl.trans (by kernel_rfl);have F:=field_of (by kernel_rfl) hl' hxl hf;obtain⟨c0,y0,h0,t0⟩:=F 0 _ rfl;obtain⟨_,x0,_,⟨q0,r0,rfl⟩,_⟩:=opens_I H enc W n _ _ t0;obtain rfl:=Option.some.inj q0;obtain⟨c1,y1,h1,t1⟩:=F 1 _ rfl;obtain⟨_,x1,b1,⟨v1,q1,r1⟩,m1⟩:=opens_SI H enc W n _ _ t1;obtain rfl:=Option.some.inj q1;exact⟨hl',⟨x0,x1⟩,_,⟨_,_,h0,r0,h1,r1,rfl⟩,m1⟩
theorem opens_SCon:Opens Tryz.prog 25 1 (vY 2 qX):=opens_slice Tryz.underlying25 (by kernel_rfl) (by decide) qX.fr opens_Con
theorem opens_Instance:Opens Tryz.prog 27 2 xI:=by
  intro H enc W fuel cs y hy;obtain⟨xs,n,_,rfl,hl,hxl,hf⟩:=DataW.trod_struct Tryz.underlying27 hy;have hl':cs.length=2:=hl.trans (by kernel_rfl);have F:=field_of (by kernel_rfl) hl' hxl hf;obtain⟨c0,y0,h0,t0⟩:=F 0 _ rfl;obtain⟨_,x0,_,⟨q0,r0,rfl⟩,_⟩:=opens_I H enc W n _ _ t0;obtain rfl:=Option.some.inj q0;obtain⟨c1,y1,h1,t1⟩:=F 1 _ rfl;obtain⟨_,x1,b1,⟨v1,q1,r1⟩,m1⟩:=opens_SCon H enc W n _ _ t1;obtain rfl:=Option.some.inj q1;exact⟨hl',⟨x0,x1⟩,_,⟨_,_,h0,r0,h1,r1,rfl⟩,m1⟩
end Go.Proofs.YticojbhjloeckaaGreat
