import Derived.Test.YtfmnjkpddljdcaaGreatDoorTS
import Derived.LoopN
import Derived.Test.YtfmnjkpddljdcaaGreatDoorNK
import Derived.Tactics
import Derived.Laws.StructEq
import Derived.Test.YtfmnjkpddljdcaaGreatDoorZ
namespace Go.Proofs.YtfmnjkpddljdcaaGreatDoor
set_option linter.unusedVariables false
set_option linter.unusedSimpArgs false
open Go.RowKit
theorem Sk.cast {a:Act} {n d:Nat} {v v':Value} {L:List (Nat×Value)} (F:Sk a n ((d,v)::L)) (h:v=v'):Sk a n ((d,v')::L):=h ▸ F
section
variable {P:Program} {ops:Array Oper} {Q:Exit→Act→World→Prop} {a:Act} {w:World} {n:Nat} {L:List (Nat×Value)} {rest:List Oper} {d:Nat} {dd:Option Tmp} {ty:TypeId} {pos:String} {af:Array Edge} {g:Option (Nat×Bool)}
theorem xTs {t e:TypeId} {z:Value} {parts:Array (Nat×Operand)} {m:Nat} {xs:List Operand} {l:List Value} (ht:P.underlying t=some (.slice e)) (hsz:∀ w,(sizeOf e).run P w= .ok 1 w) (hz:∀ w,(zeroValue e).run P w= .ok z w) (hzs:z.cells.size=1)
    (F:Sk a n L) (hc:aV ops n L g d=true) (hp:parts.toList=(List.range' 0 xs.length).zip xs) (hm:m=l.length) (hm1:l.length≤1000) (hm0:0<l.length)
    (hx:evs L xs=some l) (h1c:∀ v∈l,v.oneCell'=true)
    (k:∀ a' w' b,gM w' b l.toArray e→Below w.heap.size w w'→w.heap.size≤b→Sk a' n ((d,.slice (some ⟨b,0,none⟩) m m)::L)→wpList P ops Q rest a' w') :
    wpList P ops Q (⟨some d,.buildSlice t m parts,ty,pos,af,g⟩::rest) a w:=by
  subst hm;have hxs:=F.evs hx
  have hlen:xs.length=l.length:=by have:=congrArg List.length hxs;simpa using this
  obtain⟨cs',e1,e2,e3⟩:=uS l 0 ((Array.range l.length).map (z.cells[· % z.cells.size]!)) h1c (by simp)
  have ecs:cs'=l.toArray:=by
    apply Array.ext_getElem?
    intro i;rw[e3 i]
    by_cases h:i<l.length
    · rw[if_pos (by simp;exact h)];simp
    · rw[if_neg (by simp;omega),Array.getElem?_eq_none (by simp;omega),Array.getElem?_eq_none (by simp;omega)]
  have hlb:Below w.heap.size w (w.alloc (.cells cs' e)):=(Below.refl _ _).alloc (Nat.le_refl _) _;refine kJ (v:=.slice (some ⟨w.heap.size,0,none⟩) l.length l.length) (w':=w.alloc (.cells cs' e)) F hc ?_ (fun a' F'=>k a' _ _ (by rw[← ecs];exact gM.new rfl) hlb (Nat.le_refl _) F')
  unfold execOp
  have hparts:(parts.map fun(i,x)=>(i,a.eval x)).toList=(List.range' 0 l.length).zip l:=by
    have e9:=congrArg (fun q=>(List.range' 0 l.length).zip q) hxs;simp only[List.zip_map_right] at e9;rw[Array.toList_map,hp,hlen];exact e9
  have h0:l.length≠0:=by omega
  have h1:¬ (16777216<l.length):=by omega
  simp [Instr.buildSlice,run_underlying ht,hsz,hz,h0,h1,newRow]
  have hparts':List.map (fun x:Nat×Operand=>(x.1,a.eval x.2)) parts.toList=(List.range' 0 l.length).zip l:=by rw[← hparts,Array.toList_map]
  rw[hparts'];simp only[Nat.mul_one] at e1;rw[e1]
  rfl
theorem xUv {x:Operand} {t e:TypeId} {ad:Option Addr} {m c:Nat} (ht:P.underlying t=some (.slice e)) (F:Sk a n L) (hc:aV ops n L g d=true) (he:ev L x=some (.slice ad m c))
    (k:∀ a',Sk a' n ((d,.int .i64 m)::L)→wpList P ops Q rest a' w) :
    wpList P ops Q (⟨some d,.call ⟨.builtin .len,#[x],#[t]⟩,ty,pos,af,g⟩::rest) a w:=kJ F hc (by
  rw[BigFrame.execOp_builtin,BigFrame.builtin_len];simp only[List.map_toArray,List.map_cons,List.map_nil,F.ev he]
  simp [Builtin.len_,run_underlying ht]
  rfl) k
theorem xJz {x iy:Operand} {t e:TypeId} {b m c:Nat} {i:Nat} (ht:P.underlying t=some (.slice e)) (hsz:∀ w,(sizeOf e).run P w= .ok 1 w) (F:Sk a n L) (hc:aV ops n L g d=true) (he:ev L x=some (.slice (some ⟨b,0,none⟩) m c)) (hi:ev L iy=some (.int .i64 i)) (him:i<m)
    (k:∀ a',Sk a' n ((d,.pointer (some ⟨b,i,none⟩))::L)→wpList P ops Q rest a' w) :
    wpList P ops Q (⟨some d,.indexAddr t x iy,ty,pos,af,g⟩::rest) a w:=kJ F hc (by
  have hadd:(⟨b,0,none⟩:Addr).add i=⟨b,i,none⟩:=by rw[dD,Nat.zero_add]
  unfold execOp
  simp only[F.ev he,F.ev hi]
  have hil:(i:Int)<(m:Int):=by omega
  have h0:(0:Int)≤(i:Int):=by omega
  simp [Instr.indexAt,run_underlying ht,asIntOf,h0,hil,hsz,hadd,him]) k
theorem xOh {c:Code} (m:Nat) (h:Code.rounds P c Q m a w):(Code.loop c).wp P Q a w:=wp_loop_rounds m h
theorem xRp {c:Code} {m:Nat} (h:c.wp P (Exit.then (Code.rounds P c Q m) Q) a w):Code.rounds P c Q (m+1) a w:=h
end
end Go.Proofs.YtfmnjkpddljdcaaGreatDoor
namespace Go.Proofs.YtfmnjkpddljdcaaGreatDoor
set_option linter.unusedVariables false
set_option linter.unusedSimpArgs false
open Go.RowKit
set_option maxRecDepth 100000
section
variable {P:Program} {ops:Array Oper} {Q:Exit→Act→World→Prop} {a:Act} {w w0:World} {n:Nat} {L:List (Nat×Value)} {rest:List Oper} {d:Nat} {dd:Option Tmp} {ty:TypeId} {pos:String} {af:Array Edge} {g:Option (Nat×Bool)} {N:Nat→Prop} {X:List Nat} {D:List As}
theorem oLB {t e:TypeId} {z:Value} {parts:Array (Nat×Operand)} {m:Nat} {xs:List Operand} {l:List Value} (ht:P.underlying t=some (.slice e)) (hsz:∀ w,(sizeOf e).run P w= .ok 1 w) (hz:∀ w,(zeroValue e).run P w= .ok z w) (hzs:z.cells.size=1)
    (F:Sk a n L) (hc:aV ops n L g d=true) (hp:parts.toList=(List.range' 0 xs.length).zip xs) (hm:m=l.length) (hm1:l.length≤1000) (hm0:0<l.length)
    (hx:evs L xs=some l) (h1c:∀ v∈l,v.oneCell'=true) (H:Sep X N w0 w D)
    (k:∀ a' w' b,Sep X N w0 w' (bx b l e::D)→Sk a' n ((d,.slice (some ⟨b,0,none⟩) m m)::L)→wpList P ops Q rest a' w') :
    wpList P ops Q (⟨some d,.buildSlice t m parts,ty,pos,af,g⟩::rest) a w:=
  xTs ht hsz hz hzs F hc hp hm hm1 hm0 hx h1c (fun a' w' b K l9 hb F'=>k a' w' b (H.push l9 (A:=bx b l e) (Y0:=[b]) ⟨K,by simp⟩ n0 (fun c hc=>by rw[List.mem_singleton] at hc;subst hc;exact⟨hb,K.lt⟩)) F')
end
theorem Sep.unfoc0 {w0 w:World} {N:Nat→Prop} {X:List Nat} {D:List As} {α:Type} {sz:Nat} {R:ER α} [hR:FrC sz R] {E:TypeId} {v:Value} {xss:List (List α)} {i:Nat} {u:Value} {l:List α} (hi:i<xss.length) (hx:xss[i]?=some l) (H:Sep X N w0 w (ow (V:=Sl sz R) u l::rl 1 (RS sz R) E v ((xss.map .inr).set i (.inl u))::D)):Sep X N w0 w (rl 1 (vS sz R) E v xss::D):=by
  have h:=Sep.unfoc hi H;obtain⟨h1,rfl⟩:=List.getElem?_eq_some_iff.1 hx
  rwa [List.set_getElem_self] at h
theorem ne0 {x:Int} (h:(x != 0)=false):x=0:=by simpa using h
theorem xUn (a b c d a' b' c' d':Int) (w:World):(Op.equalIn 10000 45 (.agg #[.int .i64 a,.int .i64 b,.int .i64 c,.int .i64 d]) (.agg #[.int .i64 a',.int .i64 b',.int .i64 c',.int .i64 d'])).run Tryz.prog w= .ok (a==a' && b==b' && c==c' && d==d') w:=by
  have u3:=Tryz.underlying2;have a3:=Tryz.isAgg2;have z3:=Tryz.sizeOf2
  have hS:Tryz.prog.underlying 45=some (.struct (Tryz.prog.fieldsOf 45)):=by kernel_rfl
  have hp:Tryz.prog.stoodInHeld 45=false:=by kernel_rfl
  rw[show(10000:Nat)=9999+1 from rfl,run_equalIn_agg w 9999 45 _ _ hS hp];simp only[Program.fieldsOf,Tryz.underlying45]
  go_simp
  by_cases h1:a=a'<;>by_cases h2:b=b'<;>by_cases h3:c=c'<;>by_cases h4:d=d'<;>simp [h1,h2,h3,h4]
section
variable {a:Act} {n:Nat} {L:List (Nat×Value)} {dd:Option Tmp} {ty:TypeId} {pos:String} {af:Array Edge} {g:Option (Nat×Bool)} {M M':Nat→Prop} {wa wb:World}
theorem xPm {x y:Operand} {t':TypeId} {vx vy:Value} {p q:Line} (F:Sk a n L) (e:ev L x=some vx) (e':ev L y=some vy) (hx:Bo M wa (aY 4 qS) vx p) (hy:Bo M' wb (aY 4 qS) vy q) {w':World} :
    (execOp a.eval ⟨dd,.binOp .neq 45 x y t',ty,pos,af,g⟩).run Tryz.prog w'= .ok (.value (.bool (!(p.kind==q.kind && p.var==q.var && p.value==q.value && p.con==q.con)))) w':=by
  obtain⟨b1,h1,_⟩:=hx;obtain⟨b2,h2,_⟩:=hy;obtain⟨rfl,_⟩:=qS.open h1.r;obtain⟨rfl,_⟩:=qS.open h2.r
  have hm:Tryz.prog.eqGuardType Tryz.prog.depth 45=false:=by kernel_rfl
  unfold execOp
  simp only[F.ev e,F.ev e',Sem.run_bind,run_eqGuard_agg w' .neq 45 x y _ _ hm,Result.andThen_ok,run_neq_struct,xUn]
  rfl
end
end Go.Proofs.YtfmnjkpddljdcaaGreatDoor
