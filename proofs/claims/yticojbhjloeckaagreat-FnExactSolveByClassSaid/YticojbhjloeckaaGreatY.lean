import Derived.Test.YticojbhjloeckaaGreatK
import Derived.Test.YticojbhjloeckaaGreatB
namespace Go.Proofs.YticojbhjloeckaaGreat
set_option linter.unusedVariables false
set_option linter.unusedSimpArgs false
open Go.RowKit
def szq (left:Int) (n:Nat):Option Int:=if 0≤left∧left≤1048576 then some (szR left n) else none
def toq (n:Nat):Option Unit:=if n≤1048576 then some () else none
open Classical in
noncomputable def eqq {α:Type} (a b:α):Option Bool:=if a=b then some true else none
def mkq (k:Int) (n:Nat):Option Int:=if 0≤k∧k+(n:Nat)≤4611686018427387904 then some (k+(n:Nat)) else none
theorem szq_eq {left:Int} {n:Nat} (h0:0≤left) (h1:left≤1048576):szq left n=some (szR left n):=if_pos ⟨h0,h1⟩
theorem toq_eq {n:Nat} (h:n≤1048576):toq n=some ():=if_pos h
theorem eqq_eq {α:Type} (a:α):eqq a a=some true:=if_pos rfl
theorem mkq_eq {k:Int} {n:Nat} (h0:0≤k) (h1:k+(n:Nat)≤4611686018427387904):mkq k n=some (k+(n:Nat)):=if_pos ⟨h0,h1⟩
theorem szq_some {left z:Int} {n:Nat} (h:szq left n=some z):0≤left∧left≤1048576∧z=szR left n:=by
  unfold szq at h
  split at h
  · rename_i hh;exact⟨hh.1,hh.2,(Option.some.inj h).symm⟩
  · cases h
theorem toq_some {n:Nat} {u:Unit} (h:toq n=some u):n≤1048576:=by
  unfold toq at h
  split at h
  · assumption
  · cases h
theorem eqq_some {α:Type} {a b:α} {z:Bool} (h:eqq a b=some z):a=b∧z=true:=by
  unfold eqq at h
  split at h
  · exact⟨by assumption,(Option.some.inj h).symm⟩
  · cases h
theorem mkq_some {k z:Int} {n:Nat} (h:mkq k n=some z):0≤k∧k+(n:Nat)≤4611686018427387904∧z=k+(n:Nat):=by
  unfold mkq at h
  split at h
  · rename_i hh;exact⟨hh.1,hh.2,(Option.some.inj h).symm⟩
  · cases h
theorem mkq_i {k z:Int} {n:Nat} (h:mkq k n=some z):xY z:=by
  obtain⟨h0,h1,rfl⟩:=mkq_some h;exact⟨by omega,by omega⟩
section
variable {P:Program} {f:FuncId} {args:Array Value} {w:World}
theorem szq_says {left z:Int} {n:Nat} (h:szq left n=some z) (C:0≤left→left≤1048576→Calls P f args w (vV (.int .i64 (szR left n)) w)):Calls P f args w (SaysI z w):=by
  obtain⟨h0,h1,rfl⟩:=szq_some h;refine(C h0 h1).mono fun e w' h=>⟨h,?_⟩
  unfold szR
  split
  · exact⟨by omega,by omega⟩
  · exact⟨by omega,by omega⟩
theorem mkq_says {k z:Int} {n:Nat} (h:mkq k n=some z) (C:0≤k→k+(n:Nat)≤4611686018427387904→Calls P f args w (vV (.int .i64 (k+(n:Nat))) w)):Calls P f args w (SaysI z w):=by
  have hi:=mkq_i h;obtain⟨h0,h1,rfl⟩:=mkq_some h;exact(C h0 h1).mono fun e w' h=>⟨h,hi⟩
end
section
variable {P:Program} {ops:Array Oper} {Q:Exit→Act→World→Prop} {a:Act} {w:World} {n:Nat} {L:List (Nat×Value)} {rest:List Oper} {d:Nat} {ty:TypeId} {pos:String} {af:Array Edge} {g:Option (Nat×Bool)}
end
end Go.Proofs.YticojbhjloeckaaGreat
