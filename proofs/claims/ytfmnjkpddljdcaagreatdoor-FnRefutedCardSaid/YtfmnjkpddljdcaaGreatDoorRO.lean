import Derived.Test.YtfmnjkpddljdcaaGreatDoorNA
namespace Go.Proofs.YtfmnjkpddljdcaaGreatDoor
set_option linter.unusedVariables false
set_option linter.unusedSimpArgs false
open Go.RowKit
def pv (L:List (Nat×Value)):Go.Op→Option Value
  | .move x=>ev L x
  | .assign x=>ev L x
  | .binOp .lss _ x y _=>match ev L x,ev L y with | some (.int .i64 i),some (.int .i64 j)=>some (.bool (decide (i<j))) | _,_=>none
  | .binOp .leq _ x y _=>match ev L x,ev L y with | some (.int .i64 i),some (.int .i64 j)=>some (.bool (decide (i≤j))) | _,_=>none
  | .binOp .gtr _ x y _=>match ev L x,ev L y with | some (.int .i64 i),some (.int .i64 j)=>some (.bool (decide (j<i))) | _,_=>none
  | .binOp .geq _ x y _=>match ev L x,ev L y with | some (.int .i64 i),some (.int .i64 j)=>some (.bool (decide (j≤i))) | _,_=>none
  | .binOp .eql _ x y _=>match ev L x,ev L y with | some (.int .i64 i),some (.int .i64 j)=>some (.bool (i==j)) | _,_=>none
  | .binOp .neq _ x y _=>match ev L x,ev L y with | some (.int .i64 i),some (.int .i64 j)=>some (.bool (i != j)) | _,_=>none
  | .unOp .not _ x=>match ev L x with | some (.bool b)=>some (.bool (!b)) | _=>none
  | .pick x y z=>match ev L x with | some (.bool true)=>ev L y | some (.bool false)=>ev L z | _=>none
  | .extract x i=>match ev L x with | some (.tuple vs)=>vs[i]? | _=>none
  | _=>none
section
variable {P:Program} {ops:Array Oper} {Q Q':Exit→Act→World→Prop} {K:Act→World→Prop} {a:Act} {w:World} {n:Nat} {L L':List (Nat×Value)} {l l':List Oper} {dd:Option Tmp} {ty:TypeId} {pos:String} {af:Array Edge} {g:Option (Nat×Bool)}
theorem ev2 {x y:Operand} {v:Value} {f:Int→Int→Value} (h:(match ev L x,ev L y with | some (.int .i64 i),some (.int .i64 j)=>some (f i j) | _,_=>none)=some v):∃ i j,ev L x=some (.int .i64 i)∧ev L y=some (.int .i64 j)∧v=f i j:=by
  split at h
  · rename_i i j h1 h2
    exact⟨i,j,h1,h2,(Option.some.inj h).symm⟩
  · cases h
theorem r_pv {op:Go.Op} {v:Value} (F:Sk a n L) (h:pv L op=some v) {w':World}:(execOp a.eval ⟨dd,op,ty,pos,af,g⟩).run P w'= .ok (.value v) w':=by
  cases op with
  | move x=>exact xHi F h
  | assign x=>exact yR F h
  | binOp o t x y t'=>
    cases o with
    | lss=>obtain⟨i,j,h1,h2,rfl⟩:=ev2 (f:=fun i j=>.bool (decide (i<j))) h;exact tP F h1 h2
    | leq=>obtain⟨i,j,h1,h2,rfl⟩:=ev2 (f:=fun i j=>.bool (decide (i≤j))) h;exact xQp F h1 h2
    | gtr=>obtain⟨i,j,h1,h2,rfl⟩:=ev2 (f:=fun i j=>.bool (decide (j<i))) h;exact xGc F h1 h2
    | geq=>obtain⟨i,j,h1,h2,rfl⟩:=ev2 (f:=fun i j=>.bool (decide (j≤i))) h;exact xLx F h1 h2
    | eql=>obtain⟨i,j,h1,h2,rfl⟩:=ev2 (f:=fun i j=>.bool (i==j)) h;exact xBe F h1 h2
    | neq=>obtain⟨i,j,h1,h2,rfl⟩:=ev2 (f:=fun i j=>.bool (i != j)) h;exact uN F h1 h2
    | _=>cases h
  | unOp o t x=>
    cases o with
    | not=>
      change (match ev L x with | some (.bool b)=>some (Value.bool (!b)) | _=>none)=some v at h
      split at h
      · rename_i b h1
        obtain rfl:=Option.some.inj h;exact xLl F h1
      · cases h
    | _=>cases h
  | pick x y z=>
    change (match ev L x with | some (.bool true)=>ev L y | some (.bool false)=>ev L z | _=>none)=some v at h
    split at h
    · rename_i h1;exact xCm F h1 h
    · rename_i h1;exact xCh F h1 h
    · cases h
  | extract x i=>
    change (match ev L x with | some (.tuple vs)=>vs[i]? | _=>none)=some v at h
    split at h
    · rename_i vs h1;exact iI F h1 h
    · cases h
  | _=>cases h
def xKr (ops:Array Oper) (n:Nat):Nat→List (Nat×Value)→List Oper→Option (List (Nat×Value)×List Oper)
  | 0,L,l=>some (L,l)
  | k+1,L,l=>match l with
    | []=>none
    | ⟨some d,op,_,_,_,g⟩::l=>match aV ops n L g d with
      | true=>match pv L op with
        | some v=>xKr ops n k ((d,v)::L) l
        | none=>none
      | false=>match gno ops L g && Nat.blt d n with
        | true=>xKr ops n k ((d,undef)::L) l
        | false=>none
    | ⟨none,_,_,_,_,g⟩::l=>match gno ops L g with
      | true=>xKr ops n k L l
      | false=>none
theorem xA:∀ (k:Nat) {a:Act} {L:List (Nat×Value)} {l:List Oper} (F:Sk a n L) (h:xKr ops n k L l=some (L',l')) (c:∀ a',Sk a' n L'→wpList P ops Q l' a' w),wpList P ops Q l a w
  | 0,a,L,l,F,h,c=>by
    obtain⟨rfl,rfl⟩:=Prod.mk.inj (Option.some.inj h);exact c a F
  | k+1,a,L,[],F,h,c=>by cases h
  | k+1,a,L,⟨some d,op,ty,pos,af,g⟩::l,F,h,c=>by
    change (match aV ops n L g d with | true=>(match pv L op with | some v=>xKr ops n k ((d,v)::L) l | none=>none) | false=>(match gno ops L g && Nat.blt d n with | true=>xKr ops n k ((d,undef)::L) l | false=>none))=_ at h
    split at h
    · rename_i h1
      split at h
      · rename_i v h2
        exact kJ F h1 (r_pv F h2) (fun a F=>xA k F h c)
      · cases h
    · split at h
      · rename_i h2
        rw[Bool.and_eq_true] at h2;exact o_no F h2.1 h2.2 (fun a F=>xA k F h c)
      · cases h
  | k+1,a,L,⟨none,op,ty,pos,af,g⟩::l,F,h,c=>by
    change (match gno ops L g with | true=>xKr ops n k L l | false=>none)=_ at h
    split at h
    · rename_i h1
      exact xWf F h1 (xA k F h c)
    · cases h
theorem xJ (h:K a w):wpList P ops (Exit.then K Q) [] a w:=h
theorem xX {id:Nat} {y:Code} (h:wpList P l.toArray (Exit.then (y.wp P Q) Q) l a w):(Code.seq (.region id l.toArray false) y).wp P Q a w:=xG (oO h)
theorem zR {id:Nat} {y:Code} (h:wpList P l.toArray (Exit.then (y.wp P Q) Q) l a w):wpList P ops (Exit.then ((Code.seq (.region id l.toArray false) y).wp P Q) Q') [] a w:=xX h
theorem Sk.su {M:List (Nat×Value)} (F:Sk a n L) (h:Go.Proofs.YtfmnjkpddljdcaaGreatDoor.sub L M:=by repeat (first | exact sn | refine sc rfl ?_)):Sk a n M:=F.sub h
end
end Go.Proofs.YtfmnjkpddljdcaaGreatDoor
