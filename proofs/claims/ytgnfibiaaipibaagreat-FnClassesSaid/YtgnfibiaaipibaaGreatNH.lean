import Derived.Test.YtgnfibiaaipibaaGreatNG
namespace Go.Proofs.YtgnfibiaaipibaaGreat
set_option linter.unusedVariables false
set_option linter.unusedSimpArgs false
open Go.RowKit
theorem aC.tn0 {N:Nat→Prop} {w:World} {y:told} {u:Value} {x':List Int} (h:Bo N w (Sl 1 xH) u x'):Tn N w 2 aC 0 [u] y { y with left:=x' }:=by
  obtain⟨bs',hx,hN⟩:=h;refine⟨bs',fun old h' bi hr hg=>?_,hx.m,hN,Nat.le_of_ble_eq_true rfl⟩;obtain⟨v0,b0,h0,k0,h1,k1,rfl⟩:=hr;refine⟨_,⟨u,bs',by have:=hg 0 (by omega);simpa using this,hx.r,by have:=hg 1 (by omega);simp at this;rw[this];exact h1,k1,rfl⟩,fun c hc=>?_⟩
  grind
end Go.Proofs.YtgnfibiaaipibaaGreat
