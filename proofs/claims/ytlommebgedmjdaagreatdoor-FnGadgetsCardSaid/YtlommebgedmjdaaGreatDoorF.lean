import Derived.Test.YtlommebgedmjdaaGreatDoorA
import Derived.BigQuiet
import Derived.Deep.LoopGhost
namespace Go.Proofs.YtlommebgedmjdaaGreatDoor
set_option linter.unusedVariables false
set_option linter.unusedSimpArgs false
open Go.RowKit
def nZ:List (Nat×Value)→Nat→Option Value
  | [],_=>none
  | (d,v)::r,t=>bif Nat.beq d t then some v else nZ r t
structure Sk (a:Act) (n:Nat) (L:List (Nat×Value)):Prop where
  d:a.defers=[]
  s:a.tmps.size=n
  g:∀ t v,nZ L t=some v→a.tmps[t]?=some v
def ev (L:List (Nat×Value)):Operand→Option Value
  | .tmp t=>nZ L t
  | .const v=>some v
  | .func f=>some (.func (.func f) #[] #[])
  | .global g=>some (.pointer (some ⟨g,0,none⟩))
def evs (L:List (Nat×Value)):List Operand→Option (List Value)
  | []=>some []
  | x::r=>match ev L x,evs L r with
    | some v,some s=>some (v::s)
    | _,_=>none
theorem Sk.ev {a:Act} {n:Nat} {L:List (Nat×Value)} (h:Sk a n L) {x:Operand} {v:Value} (e:ev L x=some v):a.eval x=v:=by
  cases x with
  | tmp t=>simp [Act.eval,h.g t v e]
  | const u=>exact Option.some.inj e
  | func f=>exact Option.some.inj e
  | global g=>exact Option.some.inj e
theorem Sk.evs {a:Act} {n:Nat} {L:List (Nat×Value)} (h:Sk a n L):∀ {xs:List Operand} {vs:List Value},evs L xs=some vs→xs.map a.eval=vs
  | [],vs,e=>by cases e;rfl
  | x::r,vs,e=>by
    unfold Go.Proofs.YtlommebgedmjdaaGreatDoor.evs at e
    cases h1:Go.Proofs.YtlommebgedmjdaaGreatDoor.ev L x with
    | none=>simp [h1] at e
    | some v=>
      cases h2:Go.Proofs.YtlommebgedmjdaaGreatDoor.evs L r with
      | none=>simp [h1,h2] at e
      | some s=>
        simp only[h1,h2,Option.some.injEq] at e;subst e;rw[List.map_cons,h.ev h1,h.evs h2]
theorem Sk.put {a:Act} {n:Nat} {L:List (Nat×Value)} (h:Sk a n L) {d:Nat} (v:Value) (hd:Nat.blt d n=true):Sk (a.put (some d) v) n ((d,v)::L):=by
  have hd':d<a.tmps.size:=by rw[h.s];exact Nat.le_of_ble_eq_true hd
  refine⟨h.d,by simp [Act.put,h.s],fun t u e=>?_⟩
  unfold nZ at e
  cases hb:Nat.beq d t with
  | true=>
    have hdt:d=t:=Nat.eq_of_beq_eq_true hb;subst hdt;rw[hb] at e;simp only[cond_true,Option.some.injEq] at e;subst e
    simp [Act.put,hd']
  | false=>
    have hdt:d≠t:=Nat.ne_of_beq_eq_false hb;rw[hb] at e;simp only[cond_false] at e;have:=h.g t u e
    simp [Act.put,Array.getElem?_setIfInBounds_ne hdt,this]
theorem Sk.nil {a:Act} {n:Nat} {L:List (Nat×Value)} (h:Sk a n L):Sk a n []:=⟨h.d,h.s,fun t v e=>nomatch e⟩
theorem Sk.add {a:Act} {n:Nat} {L M:List (Nat×Value)} (h:Sk a n L) (k:Sk a n M) {t:Nat} {v:Value} (e:nZ L t=some v):Sk a n ((t,v)::M):=by
  refine⟨h.d,h.s,fun u x hu=>?_⟩
  unfold nZ at hu
  cases hb:Nat.beq t u with
  | true=>
    have htu:t=u:=Nat.eq_of_beq_eq_true hb;subst htu;rw[hb] at hu;simp only[cond_true,Option.some.injEq] at hu;subst hu;exact h.g _ _ e
  | false=>rw[hb] at hu;exact k.g _ _ hu
theorem Sk.eq {a:Act} {n:Nat} {L:List (Nat×Value)} (h:Sk a n L) {t:Nat} {v u:Value} (e:nZ L t=some v) (hv:v=u):Sk a n ((t,u)::L):=h.add h (by rw[e,hv])
theorem Sk.eb {a:Act} {n:Nat} {L:List (Nat×Value)} (h:Sk a n L) (t:Nat) {b c:Bool} (e:nZ L t=some (.bool b)) (hv:b=c):Sk a n ((t,.bool c)::L):=h.eq e (congrArg Value.bool hv)
def sub (L:List (Nat×Value)):List (Nat×Value)→Prop
  | []=>True
  | (t,v)::r=>nZ L t=some v∧sub L r
theorem Sk.sub {a:Act} {n:Nat} {L:List (Nat×Value)} (h:Sk a n L):∀ {M:List (Nat×Value)},sub L M→Sk a n M
  | [],_=>h.nil
  | (_,_)::_,hs=>h.add (h.sub hs.2) hs.1
def gok (ops:Array Oper) (L:List (Nat×Value)) (g:Option (Nat×Bool)):Bool:=
  match g with
  | none=>true
  | some (j,want)=>
    match (ops[j]?).bind (·.dst) with
    | none=>false
    | some d=>
      match nZ L d with
      | some (.bool b)=>b==want
      | _=>false
def gno (ops:Array Oper) (L:List (Nat×Value)) (g:Option (Nat×Bool)):Bool:=
  match g with
  | none=>false
  | some (j,want)=>
    match (ops[j]?).bind (·.dst) with
    | none=>false
    | some d=>
      match nZ L d with
      | some (.bool b)=>b != want
      | some _=>true
      | none=>false
theorem iW {ops:Array Oper} {a:Act} {n:Nat} {L:List (Nat×Value)} (h:Sk a n L) {o:Oper} (hg:gok ops L o.guard=true):Region.wanted o (yielded ops a.tmps)=true:=by
  unfold gok at hg
  unfold Region.wanted
  cases ho:o.guard with
  | none=>rfl
  | some p=>
    obtain⟨j,want⟩:=p;simp only[ho] at hg ⊢
    cases hd:(ops[j]?).bind (·.dst) with
    | none=>simp [hd] at hg
    | some d=>
      simp only[hd] at hg
      cases hl:nZ L d with
      | none=>simp [hl] at hg
      | some v=>
        cases v<;>simp [hl] at hg
        rename_i b;subst hg
        simp [yielded,hd,h.g _ _ hl]
theorem pL {ops:Array Oper} {a:Act} {n:Nat} {L:List (Nat×Value)} (h:Sk a n L) {o:Oper} (hg:gno ops L o.guard=true):Region.wanted o (yielded ops a.tmps)=false:=by
  unfold gno at hg
  unfold Region.wanted
  cases ho:o.guard with
  | none=>simp [ho] at hg
  | some p=>
    obtain⟨j,want⟩:=p;simp only[ho] at hg ⊢
    cases hd:(ops[j]?).bind (·.dst) with
    | none=>simp [hd] at hg
    | some d=>
      simp only[hd] at hg
      cases hl:nZ L d with
      | none=>simp [hl] at hg
      | some v=>
        cases v<;>simp [hl] at hg<;>simp [yielded,hd,h.g _ _ hl,hg]
section
variable {P:Program} {Q:Exit→Act→World→Prop} {K:Act→World→Prop} {a:Act} {w:World} {n:Nat} {L:List (Nat×Value)}
theorem oO {x y:Code} (h:x.wp P (Exit.then (y.wp P Q) Q) a w):(Code.seq x y).wp P Q a w:=wp_seq h
theorem vL {id:Nat} {l:List Oper} (h:wpList P l.toArray Q l a w):(Code.region id l.toArray false).wp P Q a w:=wp_region_lit h
theorem vM {ops:Array Oper} (h:Q .normal a w):wpList P ops Q [] a w:=h
theorem qS (h:K a w):Exit.then K Q .normal a w:=h
theorem xEb {i:Nat} (h:Q (.exit i) a w):Exit.then K Q (.exit i) a w:=h
theorem rB (h:Q .ret a w):Exit.then K Q .ret a w:=h
theorem xLn {i:Nat} (h:Q .normal a w):Exit.inBlock i Q .normal a w:=h
theorem xNo {i:Nat} (h:Q .normal a w):Exit.inBlock i Q (.exit i) a w:=by show(if i=i then _ else _);rw[if_pos rfl];exact h
theorem xLp {i:Nat} (h:Q .ret a w):Exit.inBlock i Q .ret a w:=h
theorem lM {i:Nat} {c:Code} (h:c.wp P (Exit.inBlock i Q) a w):(Code.block i c).wp P Q a w:=wp_block h
theorem eK (h:Q .normal a w):Code.skip.wp P Q a w:=wp_skip h
theorem yC {i:Nat} (h:Q (.exit i) a w):(Code.exit i).wp P Q a w:=wp_exit h
theorem mN (h:Q .ret a w):Code.ret.wp P Q a w:=wp_ret h
theorem oAb (F:Sk a n L) {c:Operand} {b:Bool} {x y:Code} (e:ev L c=some (.bool b)) (ht:b=true→x.wp P Q a w) (hf:b=false→y.wp P Q a w):(Code.cond c x y).wp P Q a w:=
  wp_cond_split (F.ev e) ht hf
theorem xTg (F:Sk a n L) {c:Operand} {x y:Code} (e:ev L c=some (.bool true)) (ht:x.wp P Q a w):(Code.cond c x y).wp P Q a w:=wp_cond_true (F.ev e) ht
theorem xTm (F:Sk a n L) {c:Operand} {x y:Code} (e:ev L c=some (.bool false)) (hf:y.wp P Q a w):(Code.cond c x y).wp P Q a w:=wp_cond_false (F.ev e) hf
theorem rK {ops:Array Oper} {Q':Exit→Act→World→Prop} (hq:∀ e a w,Q e a w→Q' e a w):∀ {l:List Oper} {a:Act} {w:World},wpList P ops Q l a w→wpList P ops Q' l a w
  | [],_,_,h=>hq _ _ _ h
  | o::r,a,w,h=>by
    unfold wpList at h ⊢
    split
    · rename_i hw
      rw[if_pos hw] at h
      rcases h with h | ⟨h1,a',w',h2⟩
      · refine .inl ?_
        have:=Oper.wp_mono (K':=wpList P ops Q' r) (fun a w h=>rK hq h) h
        unfold Oper.wp at this ⊢
        generalize (execOp a.eval o).run P w=res at *
        cases res with
        | ok nx w'=>
          cases nx<;>simp only[Oper.upon] at this ⊢ <;>
            first
              | exact this
              | (refine Calls.mono this (fun e w'' he=>?_)
                 cases e<;>first
                   | exact he
                   | exact hq _ _ _ he
                   | (obtain⟨a1,w1,h1⟩:=he;exact⟨a1,w1,hq _ _ _ h1⟩))
        | halt x w'=>cases x<;>simp only[Oper.upon] at this ⊢<;>first | exact this | exact hq _ _ _ this
      · exact .inr ⟨h1,a',w',hq _ _ _ h2⟩
    · rename_i hw
      rw[if_neg hw] at h;exact rK hq h
theorem xBs {c:Code} (I:Nat→Act→World→Prop) (g:Nat) (h₀:I g a w)
    (round:∀ g a w,I g a w→c.wp P (Exit.then (fun a' w'=>∃ g',g'<g∧I g' a' w') Q) a w):(Code.loop c).wp P Q a w:=wp_loop_ghost I g h₀ round
end
instance (n:Int):Decidable (xH n):=inferInstanceAs (Decidable (_∧_))
def ck (x:Int):Option Int:=if -9223372036854775808≤x∧x≤9223372036854775807 then some x else none
def dv (x y:Int):Option Int:=if y=0 then none else ck (x.tdiv y)
def rm (x y:Int):Option Int:=if y=0 then none else some (x.tmod y)
theorem xAo {x y:Int} (h:ck x=some y):xH x∧x=y:=by
  unfold ck at h
  split at h
  · exact⟨by assumption,Option.some.inj h⟩
  · cases h
theorem oCo {x:Int} (h:xH x):ck x=some x:=if_pos h
theorem bD {x y:Int} (h:ck x=some y):xH y:=by obtain⟨h1,rfl⟩:=xAo h;exact h1
theorem xOo {x y z:Int} (h:dv x y=some z):y≠0∧xH (x.tdiv y)∧x.tdiv y=z:=by
  unfold dv at h
  split at h
  · cases h
  · exact⟨by assumption,xAo h⟩
theorem oAw {x y z:Int} (h:dv x y=some z):xH z:=by obtain⟨_,h1,rfl⟩:=xOo h;exact h1
theorem xOm {x y z:Int} (h:rm x y=some z):y≠0∧x.tmod y=z:=by
  unfold rm at h
  split at h
  · cases h
  · exact⟨by assumption,Option.some.inj h⟩
theorem xH.tmod {x y:Int} (hx:xH x) (hy:xH y) (h:y≠0):xH (x.tmod y):=by
  have h1:=Int.natAbs_tmod x y;have h2:=Nat.mod_le x.natAbs y.natAbs;have h3:=Nat.mod_lt x.natAbs (show 0<y.natAbs by omega);have hx1:=hx.1;have hx2:=hx.2;have hy1:=hy.1;have hy2:=hy.2;exact⟨by omega,by omega⟩
theorem xWq {x y z:Int} (h:rm x y=some z) (hx:xH x) (hy:xH y):xH z:=by obtain⟨h0,rfl⟩:=xOm h;exact hx.tmod hy h0
section
variable {P:Program} {ops:Array Oper} {Q:Exit→Act→World→Prop} {a:Act} {w:World} {n:Nat} {L:List (Nat×Value)} {rest:List Oper} {d:Nat} {dd:Option Tmp} {ty:TypeId} {pos:String} {af:Array Edge} {g:Option (Nat×Bool)}
def qH (ops:Array Oper) (n:Nat) (L:List (Nat×Value)) (g:Option (Nat×Bool)) (d:Nat):Bool:=gok ops L g && Nat.blt d n
theorem qX {op:Op} (F:Sk a n L) (hc:qH ops n L g d=true) {v:Value} {w':World} (hr:(execOp a.eval ⟨some d,op,ty,pos,af,g⟩).run P w= .ok (.value v) w')
    (k:∀ a',Sk a' n ((d,v)::L)→wpList P ops Q rest a' w'):wpList P ops Q (⟨some d,op,ty,pos,af,g⟩::rest) a w:=by
  unfold qH at hc
  rw[Bool.and_eq_true] at hc
  unfold wpList
  rw[if_pos (iW F (o:=⟨some d,op,ty,pos,af,g⟩) hc.1)];refine .inl ?_
  unfold Oper.wp
  rw[hr];exact k _ (F.put v hc.2)
theorem xMu {op:Op} (F:Sk a n L) (hc:gok ops L g=true) {w':World} (hr:(execOp a.eval ⟨none,op,ty,pos,af,g⟩).run P w= .ok .skip w')
    (k:wpList P ops Q rest a w'):wpList P ops Q (⟨none,op,ty,pos,af,g⟩::rest) a w:=by
  unfold wpList
  rw[if_pos (iW F (o:=⟨none,op,ty,pos,af,g⟩) hc)];refine .inl ?_
  unfold Oper.wp
  rw[hr];exact k
theorem xPx {op:Op} (F:Sk a n L) (hc:gno ops L g=true) (hd:Nat.blt d n=true)
    (k:∀ a',Sk a' n ((d,undef)::L)→wpList P ops Q rest a' w):wpList P ops Q (⟨some d,op,ty,pos,af,g⟩::rest) a w:=by
  unfold wpList
  rw[if_neg (by rw[pL F (o:=⟨some d,op,ty,pos,af,g⟩) hc];exact Bool.false_ne_true)];exact k _ (F.put undef hd)
theorem oAz {op:Op} (F:Sk a n L) (hc:gno ops L g=true)
    (k:wpList P ops Q rest a w):wpList P ops Q (⟨none,op,ty,pos,af,g⟩::rest) a w:=by
  unfold wpList
  rw[if_neg (by rw[pL F (o:=⟨none,op,ty,pos,af,g⟩) hc];exact Bool.false_ne_true)];exact k
theorem sZ {x:Operand} {v:Value} (F:Sk a n L) (e:ev L x=some v) {w':World}:(execOp a.eval ⟨dd,.move x,ty,pos,af,g⟩).run P w'= .ok (.value (v)) w':=by
  unfold execOp;rw[← F.ev e];rfl
theorem kD {x:Operand} {v:Value} (F:Sk a n L) (hc:qH ops n L g d=true) (e:ev L x=some v) (k:∀ a',Sk a' n ((d,v)::L)→wpList P ops Q rest a' w) :
    wpList P ops Q (⟨some d,.move x,ty,pos,af,g⟩::rest) a w:=qX F hc (sZ F e) k
theorem xBb {x:Operand} {v:Value} (F:Sk a n L) (e:ev L x=some v) {w':World}:(execOp a.eval ⟨dd,.assign x,ty,pos,af,g⟩).run P w'= .ok (.value (v)) w':=by
  unfold execOp;rw[← F.ev e];rfl
theorem kV {x:Operand} {v:Value} (F:Sk a n L) (hc:qH ops n L g d=true) (e:ev L x=some v) (k:∀ a',Sk a' n ((d,v)::L)→wpList P ops Q rest a' w) :
    wpList P ops Q (⟨some d,.assign x,ty,pos,af,g⟩::rest) a w:=qX F hc (xBb F e) k
theorem xJk {x y z:Operand} {v:Value} (F:Sk a n L) (e:ev L x=some (.bool true)) (e':ev L y=some v) {w':World}:(execOp a.eval ⟨dd,.pick x y z,ty,pos,af,g⟩).run P w'= .ok (.value (v)) w':=by
  unfold execOp;simp only[F.ev e,F.ev e'];rfl
theorem xWy {x y z:Operand} {v:Value} (F:Sk a n L) (hc:qH ops n L g d=true) (e:ev L x=some (.bool true)) (e':ev L y=some v) (k:∀ a',Sk a' n ((d,v)::L)→wpList P ops Q rest a' w) :
    wpList P ops Q (⟨some d,.pick x y z,ty,pos,af,g⟩::rest) a w:=qX F hc (xJk F e e') k
theorem xIs {x y z:Operand} {v:Value} (F:Sk a n L) (e:ev L x=some (.bool false)) (e':ev L z=some v) {w':World}:(execOp a.eval ⟨dd,.pick x y z,ty,pos,af,g⟩).run P w'= .ok (.value (v)) w':=by
  unfold execOp;simp only[F.ev e,F.ev e'];rfl
theorem xOz {x y z:Operand} {v:Value} (F:Sk a n L) (hc:qH ops n L g d=true) (e:ev L x=some (.bool false)) (e':ev L z=some v) (k:∀ a',Sk a' n ((d,v)::L)→wpList P ops Q rest a' w) :
    wpList P ops Q (⟨some d,.pick x y z,ty,pos,af,g⟩::rest) a w:=qX F hc (xIs F e e') k
theorem xSj {x:Operand} {t:TypeId} {b:Bool} (F:Sk a n L) (e:ev L x=some (.bool b)) {w':World}:(execOp a.eval ⟨dd,.unOp .not t x,ty,pos,af,g⟩).run P w'= .ok (.value (.bool (!b))) w':=by
  unfold execOp;simp only[F.ev e];rfl
theorem oBj {x:Operand} {t:TypeId} {b:Bool} (F:Sk a n L) (hc:qH ops n L g d=true) (e:ev L x=some (.bool b)) (k:∀ a',Sk a' n ((d,.bool (!b))::L)→wpList P ops Q rest a' w) :
    wpList P ops Q (⟨some d,.unOp .not t x,ty,pos,af,g⟩::rest) a w:=qX F hc (xSj F e) k
theorem xXw {x y:Operand} {t t':TypeId} {i j:Int} (F:Sk a n L) (e:ev L x=some (.int .i64 i)) (e':ev L y=some (.int .i64 j)) {w':World}:(execOp a.eval ⟨dd,.binOp .eql t x y t',ty,pos,af,g⟩).run P w'= .ok (.value (.bool (i==j))) w':=by
  unfold execOp;simp only[F.ev e,F.ev e'];rfl
theorem oBq {x y:Operand} {t t':TypeId} {i j:Int} (F:Sk a n L) (hc:qH ops n L g d=true) (e:ev L x=some (.int .i64 i)) (e':ev L y=some (.int .i64 j)) (k:∀ a',Sk a' n ((d,.bool (i==j))::L)→wpList P ops Q rest a' w) :
    wpList P ops Q (⟨some d,.binOp .eql t x y t',ty,pos,af,g⟩::rest) a w:=qX F hc (xXw F e e') k
theorem oBh {x y:Operand} {t t':TypeId} {i j:Int} (F:Sk a n L) (e:ev L x=some (.int .i64 i)) (e':ev L y=some (.int .i64 j)) {w':World}:(execOp a.eval ⟨dd,.binOp .neq t x y t',ty,pos,af,g⟩).run P w'= .ok (.value (.bool (i != j))) w':=by
  unfold execOp;simp only[F.ev e,F.ev e'];rfl
theorem xXr {x y:Operand} {t t':TypeId} {i j:Int} (F:Sk a n L) (e:ev L x=some (.int .i64 i)) (e':ev L y=some (.int .i64 j)) {w':World}:(execOp a.eval ⟨dd,.binOp .lss t x y t',ty,pos,af,g⟩).run P w'= .ok (.value (.bool (decide (i<j)))) w':=by
  unfold execOp;simp only[F.ev e,F.ev e'];rfl
theorem xFk {x y:Operand} {t t':TypeId} {i j:Int} (F:Sk a n L) (hc:qH ops n L g d=true) (e:ev L x=some (.int .i64 i)) (e':ev L y=some (.int .i64 j)) (k:∀ a',Sk a' n ((d,.bool (decide (i<j)))::L)→wpList P ops Q rest a' w) :
    wpList P ops Q (⟨some d,.binOp .lss t x y t',ty,pos,af,g⟩::rest) a w:=qX F hc (xXr F e e') k
theorem oBt {x y:Operand} {t t':TypeId} {i j:Int} (F:Sk a n L) (e:ev L x=some (.int .i64 i)) (e':ev L y=some (.int .i64 j)) {w':World}:(execOp a.eval ⟨dd,.binOp .leq t x y t',ty,pos,af,g⟩).run P w'= .ok (.value (.bool (decide (i≤j)))) w':=by
  unfold execOp;simp only[F.ev e,F.ev e'];rfl
theorem oCx {x y:Operand} {t t':TypeId} {i j:Int} (F:Sk a n L) (e:ev L x=some (.int .i64 i)) (e':ev L y=some (.int .i64 j)) {w':World}:(execOp a.eval ⟨dd,.binOp .gtr t x y t',ty,pos,af,g⟩).run P w'= .ok (.value (.bool (decide (j<i)))) w':=by
  unfold execOp;simp only[F.ev e,F.ev e'];rfl
theorem oBy {x y:Operand} {t t':TypeId} {i j:Int} (F:Sk a n L) (e:ev L x=some (.int .i64 i)) (e':ev L y=some (.int .i64 j)) {w':World}:(execOp a.eval ⟨dd,.binOp .geq t x y t',ty,pos,af,g⟩).run P w'= .ok (.value (.bool (decide (j≤i)))) w':=by
  unfold execOp;simp only[F.ev e,F.ev e'];rfl
theorem oCz {x y:Operand} {t t':TypeId} {i j z:Int} (F:Sk a n L) (e:ev L x=some (.int .i64 i)) (e':ev L y=some (.int .i64 j)) (hz:ck (i+j)=some z) {w':World}:(execOp a.eval ⟨dd,.binOp .add t x y t',ty,pos,af,g⟩).run P w'= .ok (.value (.int .i64 z)) w':=by
  obtain⟨hi,rfl⟩:=xAo hz
  unfold execOp;simp only[F.ev e,F.ev e']
  show(Result.ok (Next.value (.int .i64 (IntKind.i64.wrap (i+j)))) w')=_
  rw[IntWalk.i64_in _ hi]
theorem xUe {x y:Operand} {t t':TypeId} {i j z:Int} (F:Sk a n L) (hc:qH ops n L g d=true) (e:ev L x=some (.int .i64 i)) (e':ev L y=some (.int .i64 j)) (hz:ck (i+j)=some z) (k:∀ a',Sk a' n ((d,.int .i64 z)::L)→wpList P ops Q rest a' w) :
    wpList P ops Q (⟨some d,.binOp .add t x y t',ty,pos,af,g⟩::rest) a w:=qX F hc (oCz F e e' hz) k
theorem xKq {x y:Operand} {t t':TypeId} {i j z:Int} (F:Sk a n L) (e:ev L x=some (.int .i64 i)) (e':ev L y=some (.int .i64 j)) (hz:ck (i - j)=some z) {w':World}:(execOp a.eval ⟨dd,.binOp .sub t x y t',ty,pos,af,g⟩).run P w'= .ok (.value (.int .i64 z)) w':=by
  obtain⟨hi,rfl⟩:=xAo hz
  unfold execOp;simp only[F.ev e,F.ev e']
  show(Result.ok (Next.value (.int .i64 (IntKind.i64.wrap (i - j)))) w')=_
  rw[IntWalk.i64_in _ hi]
theorem oBd {x y:Operand} {t t':TypeId} {i j z:Int} (F:Sk a n L) (hc:qH ops n L g d=true) (e:ev L x=some (.int .i64 i)) (e':ev L y=some (.int .i64 j)) (hz:ck (i - j)=some z) (k:∀ a',Sk a' n ((d,.int .i64 z)::L)→wpList P ops Q rest a' w) :
    wpList P ops Q (⟨some d,.binOp .sub t x y t',ty,pos,af,g⟩::rest) a w:=qX F hc (xKq F e e' hz) k
theorem oDa {x y:Operand} {t t':TypeId} {i j z:Int} (F:Sk a n L) (e:ev L x=some (.int .i64 i)) (e':ev L y=some (.int .i64 j)) (hz:ck (i*j)=some z) {w':World}:(execOp a.eval ⟨dd,.binOp .mul t x y t',ty,pos,af,g⟩).run P w'= .ok (.value (.int .i64 z)) w':=by
  obtain⟨hi,rfl⟩:=xAo hz
  unfold execOp;simp only[F.ev e,F.ev e']
  show(Result.ok (Next.value (.int .i64 (IntKind.i64.wrap (i*j)))) w')=_
  rw[IntWalk.i64_in _ hi]
theorem oBi {x y:Operand} {t t':TypeId} {i j z:Int} (F:Sk a n L) (hc:qH ops n L g d=true) (e:ev L x=some (.int .i64 i)) (e':ev L y=some (.int .i64 j)) (hz:ck (i*j)=some z) (k:∀ a',Sk a' n ((d,.int .i64 z)::L)→wpList P ops Q rest a' w) :
    wpList P ops Q (⟨some d,.binOp .mul t x y t',ty,pos,af,g⟩::rest) a w:=qX F hc (oDa F e e' hz) k
theorem oCw {x y:Operand} {t t':TypeId} {k:Nat} (F:Sk a n L) (e:ev L x=some (.int .i64 (k:Int))) (e':ev L y=some (.int .i64 1)) (hi:xH ((k+1:Nat):Int)) {w':World}:(execOp a.eval ⟨dd,.binOp .add t x y t',ty,pos,af,g⟩).run P w'= .ok (.value (.int .i64 ((k+1:Nat):Int))) w':=by
  unfold execOp;simp only[F.ev e,F.ev e']
  show(Result.ok (Next.value (.int .i64 (IntKind.i64.wrap ((k:Int)+1)))) w')=_
  exact congrArg (fun z=>Result.ok (Next.value (.int .i64 z)) w') (IntWalk.i64_in _ hi)
theorem xVa {x y:Operand} {t t':TypeId} {k:Nat} (F:Sk a n L) (hc:qH ops n L g d=true) (e:ev L x=some (.int .i64 (k:Int))) (e':ev L y=some (.int .i64 1)) (hi:xH ((k+1:Nat):Int)) (k:∀ a',Sk a' n ((d,.int .i64 ((k+1:Nat):Int))::L)→wpList P ops Q rest a' w) :
    wpList P ops Q (⟨some d,.binOp .add t x y t',ty,pos,af,g⟩::rest) a w:=qX F hc (oCw F e e' hi) k
theorem oAu {x y:Operand} {t t':TypeId} {i j z:Int} (F:Sk a n L) (e:ev L x=some (.int .i64 i)) (e':ev L y=some (.int .i64 j)) (hz:dv i j=some z) {w':World}:(execOp a.eval ⟨dd,.binOp .quo t x y t',ty,pos,af,g⟩).run P w'= .ok (.value (.int .i64 z)) w':=by
  obtain⟨hj,hi,rfl⟩:=xOo hz
  unfold execOp;simp only[F.ev e,F.ev e']
  have h1:∀ (P:Program) (w:World),(eqGuard .quo t x y (.int .i64 i) (.int .i64 j)).run P w= .ok () w:=fun _ _=>rfl;have h2:Go.binOp .quo t (.int .i64 i) (.int .i64 j)=Op.intDiv .quo .i64 i j:=rfl
  simp [h1,h2,Op.intDiv,if_neg hj,IntWalk.i64_in _ hi]
theorem oCv {x y:Operand} {t t':TypeId} {i j z:Int} (F:Sk a n L) (hc:qH ops n L g d=true) (e:ev L x=some (.int .i64 i)) (e':ev L y=some (.int .i64 j)) (hz:dv i j=some z) (k:∀ a',Sk a' n ((d,.int .i64 z)::L)→wpList P ops Q rest a' w) :
    wpList P ops Q (⟨some d,.binOp .quo t x y t',ty,pos,af,g⟩::rest) a w:=qX F hc (oAu F e e' hz) k
theorem oBw {x y:Operand} {t t':TypeId} {i j z:Int} (F:Sk a n L) (e:ev L x=some (.int .i64 i)) (e':ev L y=some (.int .i64 j)) (hz:rm i j=some z) {w':World}:(execOp a.eval ⟨dd,.binOp .rem t x y t',ty,pos,af,g⟩).run P w'= .ok (.value (.int .i64 z)) w':=by
  obtain⟨hj,rfl⟩:=xOm hz
  unfold execOp;simp only[F.ev e,F.ev e']
  have h1:∀ (P:Program) (w:World),(eqGuard .rem t x y (.int .i64 i) (.int .i64 j)).run P w= .ok () w:=fun _ _=>rfl;have h2:Go.binOp .rem t (.int .i64 i) (.int .i64 j)=Op.intDiv .rem .i64 i j:=rfl
  simp [h1,h2,Op.intDiv,if_neg hj]
theorem oCh {x y:Operand} {t t':TypeId} {i j z:Int} (F:Sk a n L) (hc:qH ops n L g d=true) (e:ev L x=some (.int .i64 i)) (e':ev L y=some (.int .i64 j)) (hz:rm i j=some z) (k:∀ a',Sk a' n ((d,.int .i64 z)::L)→wpList P ops Q rest a' w) :
    wpList P ops Q (⟨some d,.binOp .rem t x y t',ty,pos,af,g⟩::rest) a w:=qX F hc (oBw F e e' hz) k
theorem sR {x:Operand} {p:Addr} (F:Sk a n L) (e:ev L x=some (.pointer (some p))) {w':World}:(execOp a.eval ⟨dd,.nilCheck x,ty,pos,af,g⟩).run P w'= .ok (.value (.pointer (some p))) w':=by
  unfold execOp;simp only[F.ev e];rfl
theorem xIo {x:Operand} {i:Nat} {vs:Array Value} {v:Value} (F:Sk a n L) (e:ev L x=some (.tuple vs)) (hv:vs[i]?=some v) {w':World}:(execOp a.eval ⟨dd,.extract x i,ty,pos,af,g⟩).run P w'= .ok (.value (v)) w':=by
  unfold execOp;simp [F.ev e,Instr.extract,hv]
theorem xHo {x:Operand} {i:Nat} {vs:Array Value} {v:Value} (F:Sk a n L) (hc:qH ops n L g d=true) (e:ev L x=some (.tuple vs)) (hv:vs[i]?=some v) (k:∀ a',Sk a' n ((d,v)::L)→wpList P ops Q rest a' w) :
    wpList P ops Q (⟨some d,.extract x i,ty,pos,af,g⟩::rest) a w:=qX F hc (xIo F e hv) k
theorem xNu {f:Fn} {xs ys:List Operand} {us vs:List Value} (F:Sk a n L) (e:evs L xs=some us) (e':evs L ys=some vs) {w':World}:(execOp a.eval ⟨dd,.makeFunc f xs.toArray ys.toArray,ty,pos,af,g⟩).run P w'= .ok (.value (.func f us.toArray vs.toArray)) w':=by
  simp [execOp,F.evs e,F.evs e',Instr.makeFunc]
theorem xYy {f:Fn} {xs ys:List Operand} {us vs:List Value} (F:Sk a n L) (hc:qH ops n L g d=true) (e:evs L xs=some us) (e':evs L ys=some vs) (k:∀ a',Sk a' n ((d,.func f us.toArray vs.toArray)::L)→wpList P ops Q rest a' w) :
    wpList P ops Q (⟨some d,.makeFunc f xs.toArray ys.toArray,ty,pos,af,g⟩::rest) a w:=qX F hc (xNu F e e') k
theorem xNh {f:FuncId} {xs:List Operand} {at':Array TypeId} {vs:List Value} {Φ:Value→World→Prop} {R:Ending→World→Prop} (F:Sk a n L) (hc:qH ops n L g d=true) (hf:∀ args w,(callFunc f args).run P w= .ok (.enter f args) w)
    (e:evs L xs=some vs) (C:Calls P f vs.toArray w R) (hR:∀ e w',R e w'→∃ v,e= .returned v∧Φ v w')
    (k:∀ a' v w',Φ v w'→Sk a' n ((d,v)::L)→wpList P ops Q rest a' w') :
    wpList P ops Q (⟨some d,.call ⟨.value (.func f),xs.toArray,at'⟩,ty,pos,af,g⟩::rest) a w:=by
  unfold qH at hc
  rw[Bool.and_eq_true] at hc
  unfold wpList
  rw[if_pos (iW F (o:=⟨some d,.call ⟨.value (.func f),xs.toArray,at'⟩,ty,pos,af,g⟩) hc.1)];refine .inl ?_
  unfold Oper.wp
  have hr:(execOp a.eval ⟨some d,.call ⟨.value (.func f),xs.toArray,at'⟩,ty,pos,af,g⟩).run P w= .ok (.enter f vs.toArray) w:=by
    have h1:execOp a.eval ⟨some d,.call ⟨.value (.func f),xs.toArray,at'⟩,ty,pos,af,g⟩=callFunc f (#[]++xs.toArray.map a.eval ++ #[]):=rfl;rw[h1,List.map_toArray,F.evs e,Array.append_empty,Array.empty_append];exact hf _ _
  rw[hr]
  exact C.mono fun e w'' he=>by
    obtain⟨v,rfl,hv⟩:=hR e w'' he;exact k _ _ _ hv (F.put v hc.2)
theorem xRo {f:FuncId} {xs:List Operand} {at':Array TypeId} {vs:List Value} {v:Value} (F:Sk a n L) (hc:qH ops n L g d=true) (hf:∀ args w,(callFunc f args).run P w= .ok (.enter f args) w)
    (e:evs L xs=some vs) (C:Calls P f vs.toArray w (xDj v w))
    (k:∀ a' w',Below w.heap.size w w'→Sk a' n ((d,v)::L)→wpList P ops Q rest a' w') :
    wpList P ops Q (⟨some d,.call ⟨.value (.func f),xs.toArray,at'⟩,ty,pos,af,g⟩::rest) a w:=
  xNh (Φ:=fun u w'=>u=v∧Below w.heap.size w w') F hc hf e C (fun e w' h=>⟨v,h.1,rfl,h.2⟩) (fun a' u w' h F'=>by obtain⟨rfl,hb⟩:=h;exact k a' w' hb F')
end
end Go.Proofs.YtlommebgedmjdaaGreatDoor
