import Derived.Test.YtfmnjkpddljdcaaGreatDoorND
namespace Go.Proofs.YtfmnjkpddljdcaaGreatDoor
set_option linter.unusedVariables false
set_option linter.unusedSimpArgs false
open Go.RowKit
theorem Sep.q {X:List Nat} {N:Nat→Prop} {w0 w:World} {D:List As} (H:Sep X N w0 w D):∀ w',Below w.heap.size w w'→Sm N w0 w':=fun _ l=>(H.go l).sm
theorem qA {w:World}:∀ w',Below w.heap.size w w'→Sm (All w) w w':=fun _ l=>Sm.all l
theorem Sep.v {X:List Nat} {N:Nat→Prop} {w0 w:World} {D:List As} (H:Sep X N w0 w D):∀ w',Sm N w w'→Sm N w0 w':=fun _ s=>H.sm.trans s
theorem Sep.qb {X:List Nat} {N:Nat→Prop} {w0 w:World} {D:List As} {b:Nat} {cs:List Value} {T:TypeId} (H:Sep X N w0 w D) (i:Nat) (hi:D[i]?=some (bx b cs T)):∀ w',Below w.heap.size w w'→gM w' b cs.toArray T:=fun _ l=>(H.go l).b i hi
theorem Bk.v {N:Nat→Prop} {w1 w:World} {b:Nat} {cs:List Value} {T:TypeId} (h:Bk N w1 b cs T) (s:Sm N w1 w):∀ w',Sm N w w'→gM w' b cs.toArray T:=fun _ l=>((s.trans l).blk b h.2).trans h.1
theorem Bk.o {N:Nat→Prop} {w1 w:World} {b:Nat} {cs:List Value} {T:TypeId} (h:Bk N w1 b cs T) (s:Sm N w1 w):gM w b cs.toArray T:=(s.blk b h.2).trans h.1
theorem Bo.w {α:Type} {V:VR α} [VF V] {w w':World} {v:Value} {x:α} (h:Bo (All w) w V v x) (l:Below w.heap.size w w'):Bo (All w') w' V v x:=(h.to (Sm.all l)).all
theorem aA {w:World}:∀ c,All w c→c<w.heap.size:=fun _ h=>h
theorem Sep.r0 {X:List Nat} {N M:Nat→Prop} {w0 w w':World} {D:List As} (H:Sep X N w0 w D) (S:Sep [] M w w' []):Sep X N w0 w' D:=H.go S.bl
theorem Sep.r1 {X:List Nat} {N M:Nat→Prop} {w0 w w':World} {D:List As} {A:As} (H:Sep X N w0 w D) (S:Sep [] M w w' [A]) (h:∀ c,A.N c→N c):Sep X N w0 w' (A::D):=H.ret S (fun B hB=>by rw[List.mem_singleton] at hB;subst hB;exact h)
theorem Sep.rk {X:List Nat} {N M:Nat→Prop} {w0 w w':World} {D K:List As} (H:Sep X N w0 w D) (S:Sep [] M w w' K) (h:Ns N K) {D':List As} (e:K++D=D'):Sep X N w0 w' D':=e ▸ H.ret S h.all
section
variable {P:Program} {ops:Array Oper} {C:World→Prop} {K:Act→Prop} {a:Act} {w w0 w1:World} {n:Nat} {L:List (Nat×Value)} {rest:List Oper} {d:Nat} {ty:TypeId} {pos:String} {af:Array Edge} {g:Option (Nat×Bool)} {M N:Nat→Prop} {X:List Nat} {D:List As}
theorem qI {α:Type} {sz:Nat} {R:ER α} {x iy:Operand} {t:TypeId} {v:Value} {l:List α} {e:TypeId} {i:Int} {y:α} (ht:P.underlying t=some (.slice e)) (hsz:∀ w,(sizeOf e).run P w= .ok sz w)
    (F:Sk a n L) (hc:aV ops n L g d=true) (he:ev L x=some v) (hi:ev L iy=some (.int .i64 i)) (h:Bo M w1 (Sl sz R) v l) (hix:ix l i=some y)
    (k:∀ a' p,Bo M w1 (Pt sz R) p y→Sk a' n ((d,p)::L)→wpQuiet P ops C K rest a'):wpQuiet P ops C K (⟨some d,.indexAddr t x iy,ty,pos,af,g⟩::rest) a:=
  let ⟨p,hr,hp⟩:=xGj ht hsz F he hi h hix;zH F hc (fun w' _=>hr w') (fun a' F'=>k a' p hp F')
theorem qF {α β:Type} {sz s':Nat} {R:ER α} {R':ER β} {x:Operand} {t:TypeId} {kk:Nat} {p:Value} {y:α} {z:β} {off:Nat} (hp:∀ (a:Addr) w,(Instr.fieldAt t (.pointer (some a)) kk).run P w= .ok (.pointer (some (a.add off))) w)
    (F:Sk a n L) (hc:aV ops n L g d=true) (he:ev L x=some p) (h:Bo M w1 (Pt sz R) p y) (hf:∀ f bi,R w1 f y bi→∃ bj,R' w1 (fun j=>f (off+j)) z bj∧∀ c∈bj,c∈bi)
    (k:∀ a' p',Bo M w1 (Pt s' R') p' z→Sk a' n ((d,p')::L)→wpQuiet P ops C K rest a'):wpQuiet P ops C K (⟨some d,.fieldAddr t x kk,ty,pos,af,g⟩::rest) a:=
  let ⟨p',hr,h'⟩:=xGw (s':=s') hp F he h hf;zH F hc (fun w' _=>hr w') (fun a' F'=>k a' p' h' F')
theorem qlI {x:Operand} {t:TypeId} {p:Value} {y:Int} (hag:∀ w,(isAgg t).run P w= .ok false w) (F:Sk a n L) (hc:aV ops n L g d=true) (he:ev L x=some p) (s:∀ w',C w'→Sm M w1 w') (h:Bo M w1 (Pt 1 xM) p y)
    (k:∀ a',xS y→Sk a' n ((d,.int .i64 y)::L)→wpQuiet P ops C K rest a'):wpQuiet P ops C K (⟨some d,.load t x,ty,pos,af,g⟩::rest) a:=
  let ⟨i,hr⟩:=xOk hag F he h;zH F hc (fun w' l=>hr w' (s w' l)) (fun a' F'=>k a' i F')
theorem qlU {x:Operand} {t:TypeId} {p:Value} {y:UInt8} (hag:∀ w,(isAgg t).run P w= .ok false w) (F:Sk a n L) (hc:aV ops n L g d=true) (he:ev L x=some p) (s:∀ w',C w'→Sm M w1 w') (h:Bo M w1 (Pt 1 eQ) p y)
    (k:∀ a',Sk a' n ((d,.int .u8 y.toNat)::L)→wpQuiet P ops C K rest a'):wpQuiet P ops C K (⟨some d,.load t x,ty,pos,af,g⟩::rest) a:=zH F hc (fun w' l=>xUz hag F he h w' (s w' l)) k
theorem qlT {x:Operand} {t:TypeId} {p:Value} {y:ByteArray} (hag:∀ w,(isAgg t).run P w= .ok false w) (F:Sk a n L) (hc:aV ops n L g d=true) (he:ev L x=some p) (s:∀ w',C w'→Sm M w1 w') (h:Bo M w1 (Pt 1 pZ) p y)
    (k:∀ a',y.size≤maxLen→Sk a' n ((d,.string y)::L)→wpQuiet P ops C K rest a'):wpQuiet P ops C K (⟨some d,.load t x,ty,pos,af,g⟩::rest) a:=
  let ⟨i,hr⟩:=xQl hag F he h;zH F hc (fun w' l=>hr w' (s w' l)) (fun a' F'=>k a' i F')
theorem qlS {α:Type} {sz:Nat} {R:ER α} {x:Operand} {t:TypeId} {p:Value} {y:List α} (hag:∀ w,(isAgg t).run P w= .ok false w) (F:Sk a n L) (hc:aV ops n L g d=true) (he:ev L x=some p) (s:∀ w',C w'→Sm M w1 w') (h:Bo M w1 (Pt 1 (vS sz R)) p y)
    (k:∀ a' v,Bo M w1 (Sl sz R) v y→Sk a' n ((d,v)::L)→wpQuiet P ops C K rest a'):wpQuiet P ops C K (⟨some d,.load t x,ty,pos,af,g⟩::rest) a:=
  let ⟨v,hv,hr⟩:=xUx hag F he h;zH F hc (fun w' l=>hr w' (s w' l)) (fun a' F'=>k a' v hv F')
theorem qlP {α:Type} {sz:Nat} {R:ER α} {x:Operand} {t:TypeId} {p:Value} {y:α} (hag:∀ w,(isAgg t).run P w= .ok false w) (F:Sk a n L) (hc:aV ops n L g d=true) (he:ev L x=some p) (s:∀ w',C w'→Sm M w1 w') (h:Bo M w1 (Pt 1 (RP sz R)) p y)
    (k:∀ a' v,Bo M w1 (Pt sz R) v y→Sk a' n ((d,v)::L)→wpQuiet P ops C K rest a'):wpQuiet P ops C K (⟨some d,.load t x,ty,pos,af,g⟩::rest) a:=
  let ⟨v,hv,hr⟩:=xVw hag F he h;zH F hc (fun w' l=>hr w' (s w' l)) (fun a' F'=>k a' v hv F')
theorem qlA {α:Type} {sz:Nat} {R:ER α} [hR:FrC sz R] {x:Operand} {t:TypeId} {p:Value} {y:α} (hag:∀ w,(isAgg t).run P w= .ok true w) (hsz:∀ w,(sizeOf t).run P w= .ok sz w) (F:Sk a n L) (hc:aV ops n L g d=true) (he:ev L x=some p) (s:∀ w',C w'→Sm M w1 w') (h:Bo M w1 (Pt sz R) p y)
    (k:∀ a' v,Bo M w1 (aY sz R) v y→Sk a' n ((d,v)::L)→wpQuiet P ops C K rest a'):wpQuiet P ops C K (⟨some d,.load t x,ty,pos,af,g⟩::rest) a:=
  let ⟨v,hv,hr⟩:=xTh hag hsz F he h;zH F hc (fun w' l=>hr w' (s w' l)) (fun a' F'=>k a' v hv F')
theorem qL {α:Type} {sz:Nat} {R:ER α} {x:Operand} {t:TypeId} {v:Value} {l:List α} {e:TypeId} (ht:P.underlying t=some (.slice e)) (F:Sk a n L) (hc:aV ops n L g d=true) (he:ev L x=some v) (h:Bo M w1 (Sl sz R) v l)
    (k:∀ a',xS (l.length:Int)→Sk a' n ((d,.int .i64 l.length)::L)→wpQuiet P ops C K rest a'):wpQuiet P ops C K (⟨some d,.call ⟨.builtin .len,#[x],#[t]⟩,ty,pos,af,g⟩::rest) a:=zH F hc (fun w' _=>xOs ht F he h w') (fun a' F'=>k a' h.slen F')
theorem qC {α:Type} {sz:Nat} {R:ER α} [hR:FrC sz R] {t e:TypeId} {v:Value} {l r:List α} {i j:Int} {x:Operand} {lo hi:Option Operand} (ht:P.underlying t=some (.slice e)) (hsz:∀ w,(sizeOf e).run P w= .ok sz w) (F:Sk a n L) (hc:aV ops n L g d=true) (he:ev L x=some v)
    (hlo:match lo with | some y=>ev L y=some (.int .i64 i) | none=>i=0) (hhi:match hi with | some y=>ev L y=some (.int .i64 j) | none=>j=l.length) (h:Bo M w1 (Sl sz R) v l) (hs:sl l i j=some r)
    (k:∀ a' v',Bo M w1 (Sl sz R) v' r→Sk a' n ((d,v')::L)→wpQuiet P ops C K rest a'):wpQuiet P ops C K (⟨some d,.slice t x lo hi none,ty,pos,af,g⟩::rest) a:=
  let ⟨v',hv,hr⟩:=xPv ht hsz F he hlo hhi h hs;zH F hc (fun w' _=>hr w') (fun a' F'=>k a' v' hv F')
theorem qN {α:Type} {sz:Nat} {R:ER α} {x:Operand} {p:Value} {y:α} (F:Sk a n L) (hc:aV ops n L g d=true) (e:ev L x=some p) (h:Bo M w1 (Pt sz R) p y)
    (k:∀ a',Sk a' n ((d,p)::L)→wpQuiet P ops C K rest a'):wpQuiet P ops C K (⟨some d,.nilCheck x,ty,pos,af,g⟩::rest) a:=
  have hr:=xPl (d:=some d) (ty:=ty) (pos:=pos) (af:=af) (g:=g) F e h;zH F hc (fun w' _=>hr w') k
theorem qB {x:Operand} {t:TypeId} {b o:Nat} {v:Value} {cs:List Value} {T:TypeId} (hag:∀ w,(isAgg t).run P w= .ok false w) (F:Sk a n L) (hc:aV ops n L g d=true) (he:ev L x=some (.pointer (some ⟨b,o,none⟩))) (h:∀ w',C w'→gM w' b cs.toArray T) (hv:cs[o]?=some v)
    (k:∀ a',Sk a' n ((d,v)::L)→wpQuiet P ops C K rest a'):wpQuiet P ops C K (⟨some d,.load t x,ty,pos,af,g⟩::rest) a:=zH F hc (fun w' l=>lC hag F he (((h w' l).cell o).trans (by simpa using hv))) k
theorem qBA {x:Operand} {t:TypeId} {b o sz:Nat} {cs vs:List Value} {T:TypeId} (hag:∀ w,(isAgg t).run P w= .ok true w) (hsz:∀ w,(sizeOf t).run P w= .ok sz w) (F:Sk a n L) (hc:aV ops n L g d=true) (he:ev L x=some (.pointer (some ⟨b,o,none⟩))) (h:∀ w',C w'→gM w' b cs.toArray T)
    (hv:(cs.drop o).take sz=vs) (hl:vs.length=sz)
    (k:∀ a',Sk a' n ((d,.agg vs.toArray)::L)→wpQuiet P ops C K rest a'):wpQuiet P ops C K (⟨some d,.load t x,ty,pos,af,g⟩::rest) a:=
  zH F hc (fun w' l=>xJp hag hsz F he (h w' l) hl (fun j hj=>by subst hv;simp [List.getElem?_take,hj])) k
end
section
variable {P:Program} {ops:Array Oper} {C:World→Prop} {K:Act→Prop} {a:Act} {w w0 w1:World} {n:Nat} {L:List (Nat×Value)} {rest:List Oper} {d:Nat} {ty:TypeId} {pos:String} {af:Array Edge} {g:Option (Nat×Bool)} {M N:Nat→Prop} {X:List Nat} {D:List As}
theorem vI {α:Type} {sz:Nat} {R:ER α} {x iy:Operand} {t:TypeId} {v:Value} {l:List α} {e:TypeId} {i:Int} {y:α} (ht:P.underlying t=some (.slice e)) (hsz:∀ w,(sizeOf e).run P w= .ok sz w)
    (F:Sk a n L) (hc:aV ops n L g d=true) (he:ev L x=some v) (hi:ev L iy=some (.int .i64 i)) (h:Bo M w1 (Sl sz R) v l) (hix:ix l i=some y)
    (k:∀ a' p,Bo M w1 (Pt sz R) p y→Sk a' n ((d,p)::L)→K a'):wpV P ops C K ⟨some d,.indexAddr t x iy,ty,pos,af,g⟩ a:=
  let ⟨p,hr,hp⟩:=xGj ht hsz F he hi h hix;qT F hc (fun w' _=>hr w') (fun a' F'=>k a' p hp F')
theorem vF {α β:Type} {sz s':Nat} {R:ER α} {R':ER β} {x:Operand} {t:TypeId} {kk:Nat} {p:Value} {y:α} {z:β} {off:Nat} (hp:∀ (a:Addr) w,(Instr.fieldAt t (.pointer (some a)) kk).run P w= .ok (.pointer (some (a.add off))) w)
    (F:Sk a n L) (hc:aV ops n L g d=true) (he:ev L x=some p) (h:Bo M w1 (Pt sz R) p y) (hf:∀ f bi,R w1 f y bi→∃ bj,R' w1 (fun j=>f (off+j)) z bj∧∀ c∈bj,c∈bi)
    (k:∀ a' p',Bo M w1 (Pt s' R') p' z→Sk a' n ((d,p')::L)→K a'):wpV P ops C K ⟨some d,.fieldAddr t x kk,ty,pos,af,g⟩ a:=
  let ⟨p',hr,h'⟩:=xGw (s':=s') hp F he h hf;qT F hc (fun w' _=>hr w') (fun a' F'=>k a' p' h' F')
theorem vlI {x:Operand} {t:TypeId} {p:Value} {y:Int} (hag:∀ w,(isAgg t).run P w= .ok false w) (F:Sk a n L) (hc:aV ops n L g d=true) (he:ev L x=some p) (s:∀ w',C w'→Sm M w1 w') (h:Bo M w1 (Pt 1 xM) p y)
    (k:∀ a',xS y→Sk a' n ((d,.int .i64 y)::L)→K a'):wpV P ops C K ⟨some d,.load t x,ty,pos,af,g⟩ a:=
  let ⟨i,hr⟩:=xOk hag F he h;qT F hc (fun w' l=>hr w' (s w' l)) (fun a' F'=>k a' i F')
theorem vlT {x:Operand} {t:TypeId} {p:Value} {y:ByteArray} (hag:∀ w,(isAgg t).run P w= .ok false w) (F:Sk a n L) (hc:aV ops n L g d=true) (he:ev L x=some p) (s:∀ w',C w'→Sm M w1 w') (h:Bo M w1 (Pt 1 pZ) p y)
    (k:∀ a',y.size≤maxLen→Sk a' n ((d,.string y)::L)→K a'):wpV P ops C K ⟨some d,.load t x,ty,pos,af,g⟩ a:=
  let ⟨i,hr⟩:=xQl hag F he h;qT F hc (fun w' l=>hr w' (s w' l)) (fun a' F'=>k a' i F')
theorem vlS {α:Type} {sz:Nat} {R:ER α} {x:Operand} {t:TypeId} {p:Value} {y:List α} (hag:∀ w,(isAgg t).run P w= .ok false w) (F:Sk a n L) (hc:aV ops n L g d=true) (he:ev L x=some p) (s:∀ w',C w'→Sm M w1 w') (h:Bo M w1 (Pt 1 (vS sz R)) p y)
    (k:∀ a' v,Bo M w1 (Sl sz R) v y→Sk a' n ((d,v)::L)→K a'):wpV P ops C K ⟨some d,.load t x,ty,pos,af,g⟩ a:=
  let ⟨v,hv,hr⟩:=xUx hag F he h;qT F hc (fun w' l=>hr w' (s w' l)) (fun a' F'=>k a' v hv F')
theorem vL {α:Type} {sz:Nat} {R:ER α} {x:Operand} {t:TypeId} {v:Value} {l:List α} {e:TypeId} (ht:P.underlying t=some (.slice e)) (F:Sk a n L) (hc:aV ops n L g d=true) (he:ev L x=some v) (h:Bo M w1 (Sl sz R) v l)
    (k:∀ a',xS (l.length:Int)→Sk a' n ((d,.int .i64 l.length)::L)→K a'):wpV P ops C K ⟨some d,.call ⟨.builtin .len,#[x],#[t]⟩,ty,pos,af,g⟩ a:=qT F hc (fun w' _=>xOs ht F he h w') (fun a' F'=>k a' h.slen F')
theorem vC {α:Type} {sz:Nat} {R:ER α} [hR:FrC sz R] {t e:TypeId} {v:Value} {l r:List α} {i j:Int} {x:Operand} {lo hi:Option Operand} (ht:P.underlying t=some (.slice e)) (hsz:∀ w,(sizeOf e).run P w= .ok sz w) (F:Sk a n L) (hc:aV ops n L g d=true) (he:ev L x=some v)
    (hlo:match lo with | some y=>ev L y=some (.int .i64 i) | none=>i=0) (hhi:match hi with | some y=>ev L y=some (.int .i64 j) | none=>j=l.length) (h:Bo M w1 (Sl sz R) v l) (hs:sl l i j=some r)
    (k:∀ a' v',Bo M w1 (Sl sz R) v' r→Sk a' n ((d,v')::L)→K a'):wpV P ops C K ⟨some d,.slice t x lo hi none,ty,pos,af,g⟩ a:=
  let ⟨v',hv,hr⟩:=xPv ht hsz F he hlo hhi h hs;qT F hc (fun w' _=>hr w') (fun a' F'=>k a' v' hv F')
theorem vN {α:Type} {sz:Nat} {R:ER α} {x:Operand} {p:Value} {y:α} (F:Sk a n L) (hc:aV ops n L g d=true) (e:ev L x=some p) (h:Bo M w1 (Pt sz R) p y)
    (k:∀ a',Sk a' n ((d,p)::L)→K a'):wpV P ops C K ⟨some d,.nilCheck x,ty,pos,af,g⟩ a:=
  have hr:=xPl (d:=some d) (ty:=ty) (pos:=pos) (af:=af) (g:=g) F e h;qT F hc (fun w' _=>hr w') k
theorem vB {x:Operand} {t:TypeId} {b o:Nat} {v:Value} {cs:List Value} {T:TypeId} (hag:∀ w,(isAgg t).run P w= .ok false w) (F:Sk a n L) (hc:aV ops n L g d=true) (he:ev L x=some (.pointer (some ⟨b,o,none⟩))) (h:∀ w',C w'→gM w' b cs.toArray T) (hv:cs[o]?=some v)
    (k:∀ a',Sk a' n ((d,v)::L)→K a'):wpV P ops C K ⟨some d,.load t x,ty,pos,af,g⟩ a:=qT F hc (fun w' l=>lC hag F he (((h w' l).cell o).trans (by simpa using hv))) k
theorem vBA {x:Operand} {t:TypeId} {b o sz:Nat} {cs vs:List Value} {T:TypeId} (hag:∀ w,(isAgg t).run P w= .ok true w) (hsz:∀ w,(sizeOf t).run P w= .ok sz w) (F:Sk a n L) (hc:aV ops n L g d=true) (he:ev L x=some (.pointer (some ⟨b,o,none⟩))) (h:∀ w',C w'→gM w' b cs.toArray T)
    (hv:(cs.drop o).take sz=vs) (hl:vs.length=sz)
    (k:∀ a',Sk a' n ((d,.agg vs.toArray)::L)→K a'):wpV P ops C K ⟨some d,.load t x,ty,pos,af,g⟩ a:=
  qT F hc (fun w' l=>xJp hag hsz F he (h w' l) hl (fun j hj=>by subst hv;simp [List.getElem?_take,hj])) k
end
end Go.Proofs.YtfmnjkpddljdcaaGreatDoor
