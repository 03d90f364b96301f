import Derived.Test.YtnjlbbfcngjhmaaGreatJP
namespace Go.Proofs.YtnjlbbfcngjhmaaGreat
set_option linter.unusedVariables false
set_option linter.unusedSimpArgs false
section
open Go.RowKit
def gdk (k:Nat):List Oper->Bool
 | []=>false
 | o::_=>match o.op with
  | .nilCheck _=>false
  | _=>match o.guard with
   | none=>true
   | some (j,_)=>Nat.beq (j+1) k
def gdf:List Oper->Nat
 | []=>0
 | o::_=>match o.guard with
  | none=>0
  | some (j,_)=>j+1
def oBq (ops:Array Oper) (n g:Nat):Nat->List (Nat×Vl)->List Oper->Option (List (Nat×Vl)×List Oper)
 | 0,L,l=>some (L,l)
 | k+1,L,l=>match gdk g l with
  | true=>match sJ ops n 1 L l with
   | some (L',l')=>oBq ops n g k L' l'
   | none=>some (L,l)
  | false=>some (L,l)
def oJv (ops:Array Oper) (n:Nat) (L:List (Nat×Vl)) (l:List Oper):Option (List (Nat×Vl)×List Oper):= match sJ ops n 1 L l with
 | some (L',l')=>oBq ops n (gdf l) 100 L' l'
 | none=>none
def noG:List Oper->Bool
 | []=>true
 | o::l=>match o.guard with
  | none=>noG l
  | some _=>false
class NT {ρ:Type} (t:Option ρ):Prop
instance {ρ α:Type} {e:Option α} {f:α->Option ρ}:NT (xG e f):=⟨⟩
instance {ρ:Type} {c:Prop} [Decidable c] {a b:Option ρ}:NT (if c then a else b):=⟨⟩
instance {ρ:Type} {x:ρ}:NT (some x):=⟨⟩
instance {ρ σ:Type} {body:Nat->σ->Option (Ctl σ ρ)} {l k:Nat} {s:σ}:NT (qM body l k s):=⟨⟩
section
variable {P:Program} {ops:Array Oper} {Q Q':Exit->Act->Wd->Prop} {fn:Func} {n:Nat} {X X':List Nat} {N N' M N1 Mv:Nat->Prop} {w0 w w1:Wd} {L L':List (Nat×Vl)} {D D' D0:List As} {A B:As} {ρ σ τ:Type} {tt:Option ρ} {CC:ρ->Prop} {G G' K:Act->Wd->Prop} {R:Ending->Wd->Prop} {l l' rest:List Oper} {d f:Nat} {ls:Array Bool} {ty:Ty} {pos:String} {af:Array Edge} {g:Option (Nat×Bool)}
theorem oJx {i:Nat}:∀ (k:Nat) {a:Act} {w:Wd} {L:List (Nat×Vl)} {l:List Oper} (F:Sk a n L) (e:oBq ops n i k L l=some (L',l')) (c:∀ a',Sk a' n L'->wpList P ops Q l' a' w),wpList P ops Q l a w
 | 0,a,w,L,l,F,e,c=>by cases e;exact c a F
 | k+1,a,w,L,l,F,e,c=>by
  unfold oBq at e
  split at e
  ·split at e
   ·rename_i L' l' h
    exact xWm 1 F h (λa' F'=>oJx k F' e c)
   ·cases e;exact c a F
  ·cases e;exact c a F
theorem lI (e:oJv ops n L l=some (L',l')) (h:J n X N w0 L' D tt CC (wpList P ops Q l')):J n X N w0 L D tt CC (wpList P ops Q l):=⟨λa w F H x h1 h2=>by
 unfold oJv at e
 split at e
 ·rename_i L1 l1 h3
  exact xWm 1 F h3 (λa' F'=>oJx 100 F' e (λa' F'=>h.h a' w F' H x h1 h2))
 ·cases e⟩
theorem eR {a b:Code} (h:J n X N w0 L D tt CC (a.wp P (Exit.then (b.wp P Q) Q))):J n X N w0 L D tt CC ((Code.seq a b).wp P Q):=⟨λa w F H x p q=>kR (h.h a w F H x p q)⟩
theorem fB {i:Nat} [NT tt] (h:J n X N w0 L D tt CC (wpList P l.toArray Q l)):J n X N w0 L D tt CC ((Code.region i l.toArray false).wp P Q):=⟨λa w F H x p q=>bX (h.h a w F H x p q)⟩
theorem fJ {i:Nat} (h:J n X N w0 L D tt CC (wpList P l.toArray Q l)) (hg:noG l=true:=by rfl):J n X N w0 L D tt CC ((Code.region i l.toArray false).wp P Q):=⟨λa w F H x p q=>bX (h.h a w F H x p q)⟩
theorem cS (h:J n X N w0 L D tt CC (Q .normal)):J n X N w0 L D tt CC (wpList P ops Q []):=⟨λa w F H x p q=>dU (h.h a w F H x p q)⟩
theorem aY (h:J n X N w0 L D tt CC K):J n X N w0 L D tt CC (Exit.then K Q .normal):=⟨λa w F H x p q=>aQ (h.h a w F H x p q)⟩
theorem c_E {i:Nat} (h:J n X N w0 L D tt CC (Q (.exit i))):J n X N w0 L D tt CC (Exit.then K Q (.exit i)):=⟨λa w F H x p q=>xMi (h.h a w F H x p q)⟩
theorem jR (h:J n X N w0 L D tt CC (Q .ret)):J n X N w0 L D tt CC (Exit.then K Q .ret):=⟨λa w F H x p q=>uT (h.h a w F H x p q)⟩
theorem iI {i:Nat} (h:J n X N w0 L D tt CC (Q .normal)):J n X N w0 L D tt CC (Exit.inBlock i Q .normal):=⟨λa w F H x p q=>xMk (h.h a w F H x p q)⟩
theorem c_B {i:Nat} (h:J n X N w0 L D tt CC (Q .normal)):J n X N w0 L D tt CC (Exit.inBlock i Q (.exit i)):=⟨λa w F H x p q=>xTy (h.h a w F H x p q)⟩
theorem c_k {i:Nat} {b:Code} [NT tt] (h:J n X N w0 L D tt CC (b.wp P (Exit.inBlock i Q))):J n X N w0 L D tt CC ((Code.block i b).wp P Q):=⟨λa w F H x p q=>rZ (h.h a w F H x p q)⟩
theorem oKw {i:Nat} {b c:Code} (h:J n X N w0 L D tt CC ((Code.seq b c).wp P (Exit.inBlock i Q))):J n X N w0 L D tt CC ((Code.block i (Code.seq b c)).wp P Q):=⟨λa w F H x p q=>rZ (h.h a w F H x p q)⟩
theorem c_kg {i j:Nat} {b:Bool} {op:Array Oper} (h:J n X N w0 L D tt CC ((Code.region j op b).wp P (Exit.inBlock i Q))):J n X N w0 L D tt CC ((Code.block i (Code.region j op b)).wp P Q):=⟨λa w F H x p q=>rZ (h.h a w F H x p q)⟩
theorem iH (h:J n X N w0 L D tt CC (Q .normal)):J n X N w0 L D tt CC (Code.skip.wp P Q):=⟨λa w F H x p q=>iR (h.h a w F H x p q)⟩
theorem c_x {i:Nat} (h:J n X N w0 L D tt CC (Q (.exit i))):J n X N w0 L D tt CC ((Code.exit i).wp P Q):=⟨λa w F H x p q=>xDl (h.h a w F H x p q)⟩
theorem jU (h:J n X N w0 L D tt CC (Q .ret)):J n X N w0 L D tt CC (Code.ret.wp P Q):=⟨λa w F H x p q=>wA (h.h a w F H x p q)⟩
end
section
variable {P:Program} {ops:Array Oper} {Q Q':Exit->Act->Wd->Prop} {fn:Func} {n:Nat} {X X':List Nat} {N N' M N1 Mv:Nat->Prop} {w0 w w1:Wd} {L L':List (Nat×Vl)} {D D' D0 E E0 Kd:List As} {A B:As} {ρ σ τ:Type} {tt:Option ρ} {CC:ρ->Prop} {G G' K:Act->Wd->Prop} {R:Ending->Wd->Prop} {l l' rest:List Oper} {d f:Nat} {ls:Array Bool} {ty:Ty} {pos:String} {af:Array Edge} {g:Option (Nat×Bool)}
section
variable {t:Ty} {x y c:Operand} {kk:Nat} {bo:BinOp} {t':Ty} {pa:Array (Nat×Operand)} {ag:Array Operand} {at':Array Ty} {bb:Builtin} {o:Oper} {v:ρ} {c0:Code} {dd:Option Tmp}
end
end
section
variable {P:Program} {ops:Array Oper} {Q Q':Exit->Act->Wd->Prop} {fn:Func} {n:Nat} {X X':List Nat} {N N' M N1 Mv:Nat->Prop} {w0 w w1:Wd} {L L':List (Nat×Vl)} {D D' D0 E E0 Kd:List As} {A B:As} {ρ σ τ:Type} {tt:Option ρ} {CC:ρ->Prop} {G G' K:Act->Wd->Prop} {R:Ending->Wd->Prop} {l l' rest:List Oper} {d f:Nat} {ls:Array Bool} {ty:Ty} {pos:String} {af:Array Edge} {g:Option (Nat×Bool)}
end
end
section

end
end Go.Proofs.YtnjlbbfcngjhmaaGreat
